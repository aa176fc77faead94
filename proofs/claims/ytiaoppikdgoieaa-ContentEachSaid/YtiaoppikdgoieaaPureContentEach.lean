/- The plain law of ContentEach: what the printed functions answer is true. -/
import Derived.Test.YtiaoppikdgoieaaPC06L
import Derived.Test.YtiaoppikdgoieaaF6
namespace Go.Proofs.Ytiaoppikdgoieaa.Pure
open Go.RowKit Go.Proofs.Ytiaoppikdgoieaa.M Go.Proofs.Ytiaoppikdgoieaa.Hand Go.Proofs.YtiaoppikdgoieaaW.PrintWords Go.Proofs.YtiaoppikdgoieaaW.PrintLast Go.Proofs.YtiaoppikdgoieaaW.PrintMore
set_option linter.unusedVariables false
theorem cnt_one {α : Type} [DecidableEq α] (x : α) (l : List α) (h : l.Nodup) (hx : x ∈ l) : l.countP (fun z => decide (x = z)) = 1 := by
  induction l with
  | nil => cases hx
  | cons y l ih =>
    rw [List.nodup_cons] at h
    by_cases e : x = y
    · rw [List.countP_cons_of_pos (by simp [e])]
      have : l.countP (fun z => decide (x = z)) = 0 := by
        rw [List.countP_eq_zero]
        intro z hz hc
        have := of_decide_eq_true hc
        exact h.1 (by rw [← e, this]; exact hz)
      omega
    · rw [List.countP_cons_of_neg (by simp [e])]
      exact ih h.2 (by rcases List.mem_cons.1 hx with h1 | h1; exact absurd h1 e; exact h1)

section
variable (x1 l : List (List ByteArray)) (hM : ∀ x ∈ x1, x.length < 21) (hn : x1.length ≤ 6) (hl : l.length ≤ 7)
include hM hn hl
theorem each_l1 (up : Bool) (used : Int) (r : Bool) (K kk : Nat) (hkk : kk < l.length) (hK : ∀ q, K ≤ q → sennitlaw06_ContentEach.l0 q x1 up l (wrap64 (used + 1)) ((kk + 1 : Nat) : Int) = some r) (d : Nat) :
    ∀ (i k : Nat), i + d = x1.length → l[kk] ∈ x1.drop i → K + d + 22 ≤ k → sennitlaw06_ContentEach.l1 k x1 up l used (kk : Int) (i : Int) = some r := by
  induction d with
  | zero =>
    intro i k hi hm hk
    rw [List.drop_of_length_le (by omega)] at hm
    cases hm
  | succ d ih =>
    intro i k hi hm hk
    have hlt : i < x1.length := by omega
    obtain ⟨k, rfl⟩ : ∃ m, k = m + 1 := ⟨k - 1, by omega⟩
    have hlen := hM _ (List.getElem_mem hlt)
    rw [sennitlaw06_ContentEach.l1, if_pos (by omega), if_pos (by omega), if_pos (by omega), if_pos (by omega), rdL1 _ _ hlt, rdL1 _ _ hkk, same_f _ _ (by omega) _ (by omega), Option.bind_some, wrap_succ hlt (by omega), wrap_succ hkk (by omega)]
    by_cases e : x1[i] = l[kk]
    · rw [decide_eq_true e, if_pos rfl]
      exact hK _ (by omega)
    · rw [decide_eq_false e, if_neg (by decide)]
      refine ih (i + 1) k (by omega) ?_ (by omega)
      rw [List.drop_eq_getElem_cons hlt] at hm
      rcases List.mem_cons.1 hm with h1 | h1
      · exact absurd h1.symm e
      · exact h1
theorem each_l3 (up : Bool) (used : Int) (r : Bool) (K i : Nat) (hi : i < x1.length) (hK : ∀ q, K ≤ q → sennitlaw06_ContentEach.l2 q x1 up l used ((i + 1 : Nat) : Int) = some r) (d : Nat) :
    ∀ (kk n k : Nat), kk + d = l.length → n + (l.drop kk).countP (fun z => decide (x1[i] = z)) = 1 → n ≤ 1 → K + d + 22 ≤ k → sennitlaw06_ContentEach.l3 k x1 up l used (i : Int) (n : Int) (kk : Int) = some r := by
  induction d with
  | zero =>
    intro kk n k hkk hm hn1 hk
    rw [List.drop_of_length_le (by omega)] at hm
    obtain ⟨k, rfl⟩ : ∃ m, k = m + 1 := ⟨k - 1, by omega⟩
    simp at hm
    rw [sennitlaw06_ContentEach.l3, if_neg (by omega), if_pos (by omega), wrap_succ hi (by omega)]
    exact hK _ (by omega)
  | succ d ih =>
    intro kk n k hkk hm hn1 hk
    have hlt : kk < l.length := by omega
    obtain ⟨k, rfl⟩ : ∃ m, k = m + 1 := ⟨k - 1, by omega⟩
    have hlen := hM _ (List.getElem_mem hi)
    rw [List.drop_eq_getElem_cons hlt] at hm
    rw [sennitlaw06_ContentEach.l3, if_pos (by omega), if_pos (by omega), if_pos (by omega), if_pos (by omega), rdL1 _ _ hi, rdL1 _ _ hlt, same_f _ _ (by omega) _ (by omega), Option.bind_some, wrap_succ hlt (by omega)]
    by_cases e : x1[i] = l[kk]
    · rw [decide_eq_true e, if_pos rfl]
      rw [List.countP_cons_of_pos (by simp [e])] at hm
      have : wrap64 ((n : Int) + 1) = ((n + 1 : Nat) : Int) := by unfold wrap64; omega
      rw [this]
      exact ih (kk + 1) (n + 1) k (by omega) (by omega) (by omega) (by omega)
    · rw [decide_eq_false e, if_neg (by decide)]
      rw [List.countP_cons_of_neg (by simp [e])] at hm
      exact ih (kk + 1) n k (by omega) hm hn1 (by omega)
theorem each_l2 (used : Int) (hu : used = (l.length : Int)) (hnd : l.Nodup) (hin : ∀ x ∈ x1, x ∈ l) (d : Nat) : ∀ (i k : Nat), i + d = x1.length → d * 40 + 1 ≤ k → sennitlaw06_ContentEach.l2 k x1 true l used (i : Int) = some true := by
  induction d with
  | zero =>
    intro i k hi hk
    obtain ⟨k, rfl⟩ : ∃ m, k = m + 1 := ⟨k - 1, by omega⟩
    rw [sennitlaw06_ContentEach.l2, if_neg (by omega), if_pos rfl, hu]
    simp
  | succ d ih =>
    intro i k hi hk
    have hlt : i < x1.length := by omega
    obtain ⟨k, rfl⟩ : ∃ m, k = m + 1 := ⟨k - 1, by omega⟩
    rw [sennitlaw06_ContentEach.l2, if_pos (by omega)]
    refine each_l3 x1 l hM hn hl true used true (d * 40 + 1) i hlt (fun q hq => ih (i + 1) q (by omega) hq) l.length 0 0 k (by omega) ?_ (by omega) (by omega)
    rw [List.drop_zero, cnt_one _ _ hnd (hin _ (List.getElem_mem hlt))]
theorem each_l0 (hnd : l.Nodup) (hin : ∀ x ∈ x1, x ∈ l) (hall : ∀ x ∈ l.drop 1, x ∈ x1) (d : Nat) : ∀ (kk k : Nat), 1 ≤ kk → kk + d = l.length → d * 40 + 300 ≤ k → sennitlaw06_ContentEach.l0 k x1 true l (kk : Int) (kk : Int) = some true := by
  induction d with
  | zero =>
    intro kk k h1 hi hk
    obtain ⟨k, rfl⟩ : ∃ m, k = m + 1 := ⟨k - 1, by omega⟩
    rw [sennitlaw06_ContentEach.l0, if_neg (by omega)]
    exact each_l2 x1 l hM hn hl _ (by omega) hnd hin x1.length 0 k (by omega) (by omega)
  | succ d ih =>
    intro kk k h1 hi hk
    have hlt : kk < l.length := by omega
    obtain ⟨k, rfl⟩ : ∃ m, k = m + 1 := ⟨k - 1, by omega⟩
    rw [sennitlaw06_ContentEach.l0, if_pos (by omega)]
    refine each_l1 x1 l hM hn hl true (kk : Int) true (d * 40 + 300) kk hlt (fun q hq => ?_) x1.length 0 k (by omega) ?_ (by omega)
    · rw [wrap_succ hlt (by omega)]
      exact ih (kk + 1) q (by omega) (by omega) hq
    · rw [List.drop_zero]
      refine hall _ ?_
      have : l[kk] = (l.drop 1)[kk - 1]'(by simp; omega) := by
        rw [List.getElem_drop]; congr 1; omega
      rw [this]
      exact List.getElem_mem _
end
theorem ContentEach (l0 : List ByteArray) (n0 : l0.length ≤ 9223372036854775807) (o0 : ∀ s ∈ l0, s.size ≤ 9223372036854775807) (l1 : List (List ByteArray)) (n1 : l1.length ≤ 9223372036854775807) (o1 : ∀ x ∈ l1, x.length ≤ 9223372036854775807 ∧ ∀ s ∈ x, s.size ≤ 9223372036854775807) : ∃ k, sennitlaw06_ContentEach.f k l0 l1 = some true := by
  obtain ⟨b, hb, hB⟩ := few06_f l0 l1 n0 n1 (fun x hx => (o1 x hx).1)
  refine ⟨1000, ?_⟩
  unfold sennitlaw06_ContentEach.f
  rw [awake06, Option.bind_some, hb _ (by omega), Option.bind_some]
  cases b with
  | false => rfl
  | true =>
    obtain ⟨h1, h2, h3⟩ := hB rfl
    have hM : ∀ x ∈ l1, x.length < 21 := fun x hx => by have := (h3 x hx).1; omega
    have hG := othersG_len l0 l1 []
    simp at hG
    rw [if_pos rfl, Option.bind_some, Differing_f l0 l1 (by omega), Option.bind_some, if_pos (by simp; omega)]
    refine each_l0 l1 ([l0] ++ othersG l0 l1 []) hM h2 (by simp; omega) ?_ ?_ ?_ (othersG l0 l1 []).length 1 1000 (by omega) (by simp; omega) (by omega)
    · rw [List.singleton_append, List.nodup_cons]
      refine ⟨fun h => ?_, othersG_nodup _ _ _ List.nodup_nil⟩
      rcases othersG_mem _ _ _ _ h with h | h
      · cases h
      · exact h.2 rfl
    · intro x hx
      rcases othersG_all l0 l1 [] x hx with h | h
      · rw [h]; simp
      · exact List.mem_append_right _ h
    · intro x hx
      simp at hx
      rcases othersG_mem _ _ _ _ hx with h | h
      · cases h
      · exact h.1
end Go.Proofs.Ytiaoppikdgoieaa.Pure
