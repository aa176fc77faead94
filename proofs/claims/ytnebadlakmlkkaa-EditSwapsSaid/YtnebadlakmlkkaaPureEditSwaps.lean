/- The plain law of EditSwaps: what the printed functions answer is true. -/
import Derived.Test.YtnebadlakmlkkaaPC04L
import Derived.Test.YtnebadlakmlkkaaF11
namespace Go.Proofs.Ytnebadlakmlkkaa.Pure
open Go.RowKit Go.Proofs.Ytnebadlakmlkkaa.M Go.Proofs.Ytnebadlakmlkkaa.Hand Go.Proofs.YtnebadlakmlkkaaW.PrintWords Go.Proofs.YtnebadlakmlkkaaW.PrintLast Go.Proofs.YtnebadlakmlkkaaW.PrintMore
set_option linter.unusedVariables false
set_option linter.unusedSimpArgs false
theorem back_l0 (l0 : List Int) (a1 : Int) (ha : 0 ≤ a1) (ha2 : a1 ≤ 60) (d : Nat) : ∀ (i k : Nat), (i : Int) + d = a1 →
    sennitlaw04_EditSwaps.l0 (k + d + 1) l0 a1 true (List.replicate i (-1) ++ List.replicate d 0) (i : Int) = sennitlaw04_EditSwaps.l1 k l0 a1 true (List.replicate a1.toNat (-1)) 0 := by
  induction d with
  | zero =>
    intro i k hi
    rw [sennitlaw04_EditSwaps.l0, if_neg (by omega), show a1.toNat = i from by omega]
    simp
  | succ d ih =>
    intro i k hi
    rw [show k + (d + 1) + 1 = (k + d + 1) + 1 from rfl, sennitlaw04_EditSwaps.l0, if_pos (by omega), if_pos (by omega), if_pos (by simp; omega), wrap_succ (n := 100) (by omega) (by omega)]
    have e : (List.replicate i (-1) ++ List.replicate (d + 1) 0 : List Int).set (i : Int).toNat (-1) = List.replicate (i + 1) (-1) ++ List.replicate d 0 := by
      rw [Int.toNat_natCast, List.set_append_right _ _ (by simp), List.length_replicate, Nat.sub_self, List.replicate_succ, List.set_cons_zero, List.replicate_succ']
      simp
    rw [e, ih (i + 1) k (by omega)]
theorem back_l1 (l0 : List Int) (a1 : Int) (hl : l0.length ≤ 60) (ha2 : a1 ≤ 60) : ∀ (t : List Int) (i k : Nat) (P : List Int) (y : Int), l0.drop i = t → i + t.length = l0.length → 0 ≤ y → MayF a1 y t → (P.length : Int) = y →
    sennitlaw04_EditSwaps.l1 (k + t.length) l0 a1 true (P ++ List.replicate (a1 - y).toNat (-1)) (i : Int) = sennitlaw04_EditSwaps.l1 k l0 a1 true (P ++ inv a1 i y t) (l0.length : Int) := by
  intro t
  induction t with
  | nil =>
    intro i k P y ht hi hy hM hP
    rw [inv, List.length_nil, Nat.add_zero, show i = l0.length from by simpa using hi]
  | cons j t ih =>
    intro i k P y ht hi hy hM hP
    rw [List.length_cons] at hi
    have hlt : i < l0.length := by omega
    rw [List.drop_eq_getElem_cons hlt] at ht
    injection ht with hj ht
    rw [List.length_cons, show k + (t.length + 1) = (k + t.length) + 1 from rfl, sennitlaw04_EditSwaps.l1, if_pos (by omega), if_pos (by omega), rd_get _ _ hlt, hj, wrap_succ hlt (by omega), inv]
    rcases hM with ⟨rfl, hM⟩ | ⟨h1, h2, hM⟩
    · rw [if_neg (by omega), if_pos (by omega), ih (i + 1) k P y ht (by omega) hy hM hP]
      rfl
    · rw [if_pos (by omega), if_pos (by omega), if_pos (by simp; omega), if_neg (by omega)]
      have e : (P ++ List.replicate (a1 - y).toNat (-1) : List Int).set j.toNat (i : Int) = (P ++ List.replicate (j - y).toNat (-1) ++ [(i : Int)]) ++ List.replicate (a1 - (j + 1)).toNat (-1) := by
        rw [show (a1 - y).toNat = (j - y).toNat + ((a1 - (j + 1)).toNat + 1) from by omega, ← List.replicate_append_replicate, ← List.append_assoc, List.set_append_right _ _ (by simp; omega), show j.toNat - (P ++ List.replicate (j - y).toNat (-1) : List Int).length = 0 from by simp; omega, List.replicate_succ, List.set_cons_zero]
        simp
      rw [e, ih (i + 1) k _ (j + 1) ht (by omega) (by omega) hM (by simp; omega)]
      simp
theorem EditSwaps (l0 : List Int) (n0 : l0.length ≤ 9223372036854775807) (o0 : ∀ y ∈ l0, (Lit.int .i64 y).wf = true) (a1 : Int) (o1 : (Lit.int .i64 a1).wf = true) : ∃ k, sennitlaw04_EditSwaps.f k l0 a1 = some true := by
  refine ⟨10000, ?_⟩
  obtain ⟨_, w1⟩ := wf64 o1
  have tr : ∀ b : Bool, b = true → sennitlaw04_EditSwaps.j0 10000 l0 a1 true b = some true := fun b e => by
    rw [sennitlaw04_EditSwaps.j0, if_pos e]
  unfold sennitlaw04_EditSwaps.f
  rw [awake04 _ (by omega), Option.bind_some]
  by_cases h : (l0.length : Int) > 60
  · rw [if_pos h]; exact tr _ rfl
  · rw [if_neg h]
    by_cases h2 : a1 > 60
    · rw [if_pos h2]; exact tr _ rfl
    · rw [if_neg h2, mayR_f a1 w1 l0 n0 _ (by omega), Option.bind_some]
      by_cases h3 : MayF a1 0 l0
      · have hn := mayF_le _ _ h3
        rw [decide_eq_true h3, sennitlaw04_EditSwaps.j0, if_neg (by decide), if_pos hn, if_pos (by omega)]
        have e0 := back_l0 l0 a1 hn (by omega) a1.toNat 0 (9998 - a1.toNat) (by omega)
        rw [show 9998 - a1.toNat + a1.toNat + 1 = 9999 from by omega] at e0
        simp only [List.replicate_zero, List.nil_append] at e0
        have e1 := back_l1 l0 a1 (by omega) (by omega) l0 0 (9998 - a1.toNat - l0.length) [] 0 rfl (by simp) (by omega) h3 rfl
        rw [show 9998 - a1.toNat - l0.length + l0.length = 9998 - a1.toNat from by omega] at e1
        simp only [List.nil_append, Int.sub_zero] at e1
        rw [show ((0 : Nat) : Int) = 0 from rfl] at e0 e1
        obtain ⟨q, hq⟩ : ∃ q, 9998 - a1.toNat - l0.length = q + 1 := ⟨9997 - a1.toNat - l0.length, by omega⟩
        rw [e0, e1, hq, sennitlaw04_EditSwaps.l1, if_neg (by omega)]
        have n2 : ¬ ((l0.length : Int) > 2000 ∨ a1 > 2000) := by omega
        have hil := inv_len a1 l0 0 0 (by omega) h3
        have him := inv_may a1 l0.length l0 0 0 0 (by omega) (by omega) (by omega)
        have n3 : ¬ (((inv a1 0 0 l0).length : Int) > 2000 ∨ (l0.length : Int) > 2000) := by omega
        have hc := chg_len a1 l0 0 0 0
        rw [Changes_f, Option.bind_some, Changes_f, Option.bind_some, if_pos rfl, if_neg n2, if_neg n3, if_pos h3, if_pos him, if_pos rfl, chg_inv a1 l0.length l0 0 0 0 (by omega) (by omega) (by omega) h3 (by omega),
          Swap_f _ (by simp only; omega) _ (by simp only; omega), Option.bind_some, same04_f _ _ (by simp; omega) _ (by simp; omega), Option.bind_some, if_pos (by simp), Option.bind_some, Swap_f _ (by simp; omega) _ (by simp; omega), Option.bind_some, same04_f _ _ (by simp; omega) _ (by simp; omega), Option.bind_some]
        have : (swp ∘ swp) = id := by funext c; rfl
        simp [this]
      · rw [decide_eq_false h3]; exact tr _ rfl
end Go.Proofs.Ytnebadlakmlkkaa.Pure
