/- The plain law of EditCounts: what the printed functions answer is true. -/
import Derived.Test.YtnebadlakmlkkaaPC04L
import Derived.Test.YtnebadlakmlkkaaF12
namespace Go.Proofs.Ytnebadlakmlkkaa.Pure
open Go.RowKit Go.Proofs.Ytnebadlakmlkkaa.M Go.Proofs.Ytnebadlakmlkkaa.Hand Go.Proofs.YtnebadlakmlkkaaW.PrintWords Go.Proofs.YtnebadlakmlkkaaW.PrintLast Go.Proofs.YtnebadlakmlkkaaW.PrintMore
set_option linter.unusedVariables false
set_option linter.unusedSimpArgs false
theorem cnt_bd : ∀ (t : List Int), 0 ≤ cnt t ∧ cnt t ≤ t.length := by
  intro t
  induction t with
  | nil => simp [cnt]
  | cons j t ih =>
    rw [cnt, List.length_cons]
    split <;> omega
theorem count_l0 (l0 : List Int) (a1 : Int) (x6 : List S60) (hl : l0.length ≤ 60) : ∀ (t : List Int) (i k : Nat) (c : Int), l0.drop i = t → i + t.length = l0.length → 0 ≤ c → c ≤ i →
    sennitlaw04_EditCounts.l0 (k + t.length + 1) l0 a1 true x6 c (i : Int) = sennitlaw04_EditCounts.l1 k l0 a1 true x6 (c + cnt t) 0 0 0 := by
  intro t
  induction t with
  | nil =>
    intro i k c ht hi h0 hc
    rw [List.length_nil] at hi
    rw [List.length_nil, Nat.add_zero, sennitlaw04_EditCounts.l0, if_neg (by omega), cnt, Int.add_zero]
  | cons j t ih =>
    intro i k c ht hi h0 hc
    rw [List.length_cons] at hi
    have hlt : i < l0.length := by omega
    rw [List.drop_eq_getElem_cons hlt] at ht
    injection ht with hj ht
    rw [List.length_cons, show k + (t.length + 1) + 1 = (k + t.length + 1) + 1 from rfl, sennitlaw04_EditCounts.l0, if_pos (by omega), if_pos (by omega), rd_get _ _ hlt, hj, wrap_succ hlt (by omega), cnt]
    by_cases h : j ≥ 0
    · rw [if_pos h, if_pos h, wrap_id (x := c + 1) (by omega) (by omega), ih (i + 1) k _ ht (by omega) (by omega) (by omega), Int.add_assoc]
    · rw [if_neg h, if_neg h, ih (i + 1) k _ ht (by omega) (by omega) (by omega), Int.zero_add]
theorem far_sum (m n : Int) : ∀ (t : List S60) (a b : Int), -1 ≤ a → -1 ≤ b → Far m n a b t → 0 ≤ oldS t ∧ oldS t ≤ (m - a) ∨ t = [] := by
  intro t
  induction t with
  | nil => intro a b _ _ _; exact .inr rfl
  | cons c t ih =>
    rintro a b ha hb ⟨f1, f2, f3, f4, f5, f6, f7⟩
    rw [oldS]
    rcases ih _ _ (by omega) (by omega) f7 with h | rfl
    · exact .inl (by omega)
    · exact .inl (by simp [oldS]; omega)
theorem count_l1 (l0 : List Int) (a1 c : Int) (x6 : List S60) (hl : l0.length ≤ 60) (ha : a1 ≤ 2000) (hx : x6.length ≤ 100) : ∀ (t : List S60) (i k : Nat) (u v : Int) (a b : Int), x6.drop i = t → i + t.length = x6.length → (i = 0 ∨ ∃ p, x6[i - 1]? = some p ∧ p.f0.f1 = a ∧ p.f1.f1 = b) → -1 ≤ a → -1 ≤ b → Far l0.length a1 a b t → 0 ≤ u → u ≤ i * 2000 → 0 ≤ v → v ≤ i * 2000 →
    sennitlaw04_EditCounts.l1 (k + t.length + 1) l0 a1 true x6 c u v (i : Int) = if wrap64 (u + oldS t + c) = (l0.length : Int) then some (wrap64 (v + newS t + c) == a1) else some false := by
  intro t
  induction t with
  | nil =>
    intro i k u v a b ht hi hp h1 h2 hf hu hu2 hv hv2
    rw [List.length_nil] at hi
    rw [List.length_nil, Nat.add_zero, sennitlaw04_EditCounts.l1, if_neg (by omega), if_pos rfl, oldS, newS, Int.add_zero, Int.add_zero]
  | cons s t ih =>
    intro i k u v a b ht hi hp h1 h2 hf hu hu2 hv hv2
    rw [List.length_cons] at hi
    have hlt : i < x6.length := by omega
    rw [List.drop_eq_getElem_cons hlt] at ht
    injection ht with hj ht
    obtain ⟨f1, f2, f3, f4, f5, f6, f7⟩ := hf
    have hnext : x6[i + 1 - 1]? = some s := by rw [Nat.add_sub_cancel, List.getElem?_eq_getElem hlt, hj]
    have go := ih (i + 1) k (u + (s.f0.f1 - s.f0.f0)) (v + (s.f1.f1 - s.f1.f0)) s.f0.f1 s.f1.f1 ht (by omega) (.inr ⟨s, hnext, rfl, rfl⟩) (by omega) (by omega) f7 (by omega) (by omega) (by omega) (by omega)
    have eu : wrap64 (wrap64 (u + s.f0.f1) - s.f0.f0) = u + (s.f0.f1 - s.f0.f0) := by
      rw [wrap_id (x := u + s.f0.f1) (by omega) (by omega), wrap_id (by omega) (by omega)]; omega
    have ev : wrap64 (wrap64 (v + s.f1.f1) - s.f1.f0) = v + (s.f1.f1 - s.f1.f0) := by
      rw [wrap_id (x := v + s.f1.f1) (by omega) (by omega), wrap_id (by omega) (by omega)]; omega
    have fin : sennitlaw04_EditCounts.l1 (k + t.length + 1) l0 a1 true x6 c (wrap64 (wrap64 (u + s.f0.f1) - s.f0.f0)) (wrap64 (wrap64 (v + s.f1.f1) - s.f1.f0)) (wrap64 ((i : Int) + 1)) = if wrap64 (u + oldS (s :: t) + c) = (l0.length : Int) then some (wrap64 (v + newS (s :: t) + c) == a1) else some false := by
      rw [eu, ev, wrap_succ hlt (by omega), go, oldS, newS, Int.add_assoc u, Int.add_assoc v]
    rw [List.length_cons, show k + (t.length + 1) + 1 = (k + t.length + 1) + 1 from rfl, sennitlaw04_EditCounts.l1, if_pos (by omega), if_pos (by omega), rdT_get _ _ hlt, hj]
    by_cases h0 : i = 0
    · rw [if_neg (by omega)]; exact fin
    · rcases hp with e | ⟨p, e, rfl, rfl⟩
      · exact absurd e h0
      · have hlt2 : i - 1 < x6.length := by omega
        have ep : x6[i - 1] = p := by rw [List.getElem?_eq_getElem hlt2] at e; exact Option.some.inj e
        rw [if_pos (by omega), show wrap64 ((i : Int) - 1) = ((i - 1 : Nat) : Int) from by unfold wrap64; omega, if_pos (by omega), if_pos (by omega), rdT_get _ _ hlt2, ep, if_neg (by omega), if_neg (by omega)]
        exact fin
theorem EditCounts (l0 : List Int) (n0 : l0.length ≤ 9223372036854775807) (o0 : ∀ y ∈ l0, (Lit.int .i64 y).wf = true) (a1 : Int) (o1 : (Lit.int .i64 a1).wf = true) : ∃ k, sennitlaw04_EditCounts.f k l0 a1 = some true := by
  refine ⟨10000, ?_⟩
  obtain ⟨_, w1⟩ := wf64 o1
  have tr : ∀ b : Bool, b = true → sennitlaw04_EditCounts.j0 10000 l0 a1 true b = some true := fun b e => by
    rw [sennitlaw04_EditCounts.j0, if_pos e]
  unfold sennitlaw04_EditCounts.f
  rw [awake04 _ (by omega), Option.bind_some]
  by_cases h : (l0.length : Int) > 60
  · rw [if_pos h]; exact tr _ rfl
  · rw [if_neg h]
    by_cases h2 : a1 > 2000
    · rw [if_pos h2]; exact tr _ rfl
    · rw [if_neg h2, mayR_f a1 w1 l0 n0 _ (by omega), Option.bind_some]
      by_cases h3 : MayF a1 0 l0
      · have hn := mayF_le _ _ h3
        have n2 : ¬ ((l0.length : Int) > 2000 ∨ a1 > 2000) := by omega
        have hc := chg_len a1 l0 0 0 0
        have hcn := cnt_bd l0
        rw [decide_eq_true h3, sennitlaw04_EditCounts.j0, if_neg (by decide), Changes_f, Option.bind_some, if_neg n2, if_pos h3]
        have e0 := count_l0 l0 a1 (chg a1 0 0 0 l0) (by omega) l0 0 (9998 - l0.length) 0 rfl (by omega) (by omega) (by omega)
        rw [show 9998 - l0.length + l0.length + 1 = 9999 from by omega, show ((0 : Nat) : Int) = 0 from rfl] at e0
        have e1 := count_l1 l0 a1 (0 + cnt l0) (chg a1 0 0 0 l0) (by omega) (by omega) (by omega) (chg a1 0 0 0 l0) 0 (9997 - l0.length - (chg a1 0 0 0 l0).length) 0 0 (-1) (-1) rfl (by omega) (.inl rfl) (by omega) (by omega) (far_chg a1 l0.length l0 0 0 0 (-1) (-1) (by omega) (by omega) (by omega) h3 (by omega) (by omega)) (by omega) (by omega) (by omega) (by omega)
        rw [show 9997 - l0.length - (chg a1 0 0 0 l0).length + (chg a1 0 0 0 l0).length + 1 = 9998 - l0.length from by omega, show ((0 : Nat) : Int) = 0 from rfl] at e1
        show sennitlaw04_EditCounts.l0 9999 l0 a1 true (chg a1 0 0 0 l0) 0 0 = _
        rw [e0, e1, oldS_chg a1 l0 0 0 0 (by omega) h3, newS_chg a1 l0 0 0 0 (by omega) h3 (by omega), wrap_id (by omega) (by omega), wrap_id (by omega) (by omega), if_pos (by omega)]
        simp <;> omega
      · rw [decide_eq_false h3]; exact tr _ rfl
end Go.Proofs.Ytnebadlakmlkkaa.Pure
