/- What the reference's small functions on lists of texts tell, with rounds enough: Same, Few. Plain Lean. -/
import Derived.Test.YtbhfenpccccloaaF23
import Derived.Test.YtbhfenpccccloaaF19
import Derived.Test.YtbhfenpccccloaaHand
namespace Go.Proofs.Ytbhfenpccccloaa.Pure
open Go.RowKit Go.Proofs.Ytbhfenpccccloaa.M Go.Proofs.Ytbhfenpccccloaa.Hand Go.Proofs.YtbhfenpccccloaaW.PrintWords Go.Proofs.YtbhfenpccccloaaW.PrintLast Go.Proofs.YtbhfenpccccloaaW.PrintMore

set_option linter.unusedVariables false
theorem rdOf_get {α : Type} (d : α) (l : List α) (i : Nat) (h : i < l.length) : rdOf d l (i : Int) = l[i] := by
  simp [rdOf, List.getD_eq_getElem?_getD, h]
theorem bytes_toList_inj (a b : ByteArray) : (a.toList = b.toList) ↔ a = b := ⟨bytes_ext a b, fun h => by rw [h]⟩
theorem wrap_succ {i n : Nat} (h : i < n) (hn : n ≤ 9223372036854775807) : wrap64 ((i : Int) + 1) = ((i + 1 : Nat) : Int) := by unfold wrap64; omega

theorem same_l0 (a b : List ByteArray) (hab : a.length = b.length) (hm : a.length ≤ 9223372036854775807) (d : Nat) : ∀ (i k : Nat), i ≤ a.length → a.length - i = d → d < k →
    sennitref01_Same.l0 k a b (i : Int) = some (decide (a.drop i = b.drop i)) := by
  induction d with
  | zero =>
    intro i k hi hd hk
    obtain ⟨k, rfl⟩ : ∃ m, k = m + 1 := ⟨k - 1, by omega⟩
    simp only [sennitref01_Same.l0]
    rw [if_neg (by omega), List.drop_of_length_le (by omega), List.drop_of_length_le (by omega)]
    simp
  | succ d ih =>
    intro i k hi hd hk
    obtain ⟨k, rfl⟩ : ∃ m, k = m + 1 := ⟨k - 1, by omega⟩
    have hlt : i < a.length := by omega
    have hlt2 : i < b.length := by omega
    rw [sennitref01_Same.l0, if_pos (by omega), if_pos (by omega), if_pos (by omega), wrap_succ hlt hm, ih (i + 1) k (by omega) (by omega) (by omega)]
    have d1 := List.drop_eq_getElem_cons hlt
    have d2 := List.drop_eq_getElem_cons hlt2
    have ee : (a.drop i = b.drop i) ↔ (a[i] = b[i] ∧ a.drop (i + 1) = b.drop (i + 1)) := by rw [d1, d2, List.cons.injEq]
    rw [rdOf_get _ _ _ hlt, rdOf_get _ _ _ hlt2]
    by_cases h : a[i].toList = b[i].toList
    · rw [if_pos h]
      have h2 := bytes_ext _ _ h
      congr 1
      simp only [ee, h2, true_and]
    · rw [if_neg h]
      have h2 : ¬ a[i] = b[i] := fun e => h (by rw [e])
      congr 1
      simp only [ee, h2, false_and, decide_false]
theorem same_f (a b : List ByteArray) (hm : a.length ≤ 9223372036854775807) (k : Nat) (hk : a.length < k) : sennitref01_Same.f k a b = some (decide (a = b)) := by
  unfold sennitref01_Same.f
  by_cases h : a.length = b.length
  · rw [if_pos (by omega)]
    have := same_l0 a b h hm a.length 0 k (by omega) (by omega) hk
    simpa using this
  · rw [if_neg (by omega)]
    have : ¬ a = b := fun e => h (by rw [e])
    simp [this]

theorem few_l0 (l : List ByteArray) (m : Nat) (hm : m ≤ 1000) (hl : l.length ≤ 9223372036854775807) (d : Nat) : ∀ (i : Nat), i ≤ l.length → i ≤ m + 1 → m + 1 - i = d → (∀ j, j < i → ∀ s, l[j]? = some s → s.size ≤ 100) →
    ∃ b, (∀ k, 2 * d + 2 ≤ k → sennitref01_Few.l0 k l (m : Int) (i : Int) = some b) ∧ (b = true → l.length ≤ m ∧ ∀ s ∈ l, s.size ≤ 100) := by
  have fin : ∀ (i : Nat), i ≤ l.length → (¬ (i < l.length ∧ i ≤ m)) → (∀ j, j < i → ∀ s, l[j]? = some s → s.size ≤ 100) → ∃ b, (∀ k, 2 ≤ k → sennitref01_Few.l0 k l (m : Int) (i : Int) = some b) ∧ (b = true → l.length ≤ m ∧ ∀ s ∈ l, s.size ≤ 100) := by
    intro i hi hn hp
    refine ⟨decide ((l.length : Int) ≤ (m : Int)), fun k hk => ?_, fun h => ?_⟩
    · obtain ⟨k, rfl⟩ : ∃ q, k = q + 2 := ⟨k - 2, by omega⟩
      rw [sennitref01_Few.l0]
      by_cases h1 : i < l.length
      · rw [if_pos (by omega), decide_eq_false (by omega), sennitref01_Few.j1, if_neg (by decide)]
      · rw [if_neg (by omega), sennitref01_Few.j1, if_neg (by decide)]
    · have hlm : l.length ≤ m := by have := of_decide_eq_true h; omega
      refine ⟨hlm, fun s hs => ?_⟩
      obtain ⟨j, hj⟩ := List.getElem?_of_mem hs
      have := (List.getElem?_eq_some_iff.1 hj).1
      exact hp j (by omega) s hj
  induction d with
  | zero =>
    intro i hi him hd hp
    obtain ⟨b, h1, h2⟩ := fin i hi (by omega) hp
    exact ⟨b, fun k hk => h1 k (by omega), h2⟩
  | succ d ih =>
    intro i hi him hd hp
    by_cases hc : i < l.length
    · by_cases hs : l[i].size ≤ 100
      · obtain ⟨b, h1, h2⟩ := ih (i + 1) (by omega) (by omega) (by omega) (fun j hj s hs' => by
          by_cases e : j = i
          · subst e
            rw [List.getElem?_eq_getElem hc] at hs'
            injection hs' with hs'
            rw [← hs']; exact hs
          · exact hp j (by omega) s hs')
        refine ⟨b, fun k hk => ?_, h2⟩
        obtain ⟨k, rfl⟩ : ∃ q, k = q + 2 := ⟨k - 2, by omega⟩
        rw [sennitref01_Few.l0, if_pos (by omega), decide_eq_true (by omega), sennitref01_Few.j1, if_pos rfl, if_pos (by omega), if_pos (by omega), rdOf_get _ _ _ hc, if_neg (by omega), wrap_succ hc hl]
        exact h1 k (by omega)
      · refine ⟨false, fun k hk => ?_, fun h => by cases h⟩
        obtain ⟨k, rfl⟩ : ∃ q, k = q + 2 := ⟨k - 2, by omega⟩
        rw [sennitref01_Few.l0, if_pos (by omega), decide_eq_true (by omega), sennitref01_Few.j1, if_pos rfl, if_pos (by omega), if_pos (by omega), rdOf_get _ _ _ hc, if_pos (by omega)]
    · obtain ⟨b, h1, h2⟩ := fin i hi (by omega) hp
      exact ⟨b, fun k hk => h1 k (by omega), h2⟩
theorem few_f (l : List ByteArray) (m : Nat) (hm : m ≤ 1000) (hl : l.length ≤ 9223372036854775807) :
    ∃ b, (∀ k, 2 * m + 4 ≤ k → sennitref01_Few.f k l (m : Int) = some b) ∧ (b = true → l.length ≤ m ∧ ∀ s ∈ l, s.size ≤ 100) := by
  obtain ⟨b, h1, h2⟩ := few_l0 l m hm hl (m + 1) 0 (by omega) (by omega) (by omega) (fun j hj => by omega)
  exact ⟨b, fun k hk => h1 k (by omega), h2⟩
end Go.Proofs.Ytbhfenpccccloaa.Pure
