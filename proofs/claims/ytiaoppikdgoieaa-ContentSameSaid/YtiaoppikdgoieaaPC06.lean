/- What the functions of layer 6 tell, with rounds enough. Plain Lean. -/
import Derived.Test.YtiaoppikdgoieaaPC01
import Derived.Test.YtiaoppikdgoieaaF20
import Derived.Test.YtiaoppikdgoieaaF22
import Derived.Test.YtiaoppikdgoieaaF28
import Derived.Test.YtiaoppikdgoieaaF29
namespace Go.Proofs.Ytiaoppikdgoieaa.Pure
open Go.RowKit Go.Proofs.Ytiaoppikdgoieaa.M Go.Proofs.Ytiaoppikdgoieaa.Hand Go.Proofs.YtiaoppikdgoieaaW.PrintWords Go.Proofs.YtiaoppikdgoieaaW.PrintLast Go.Proofs.YtiaoppikdgoieaaW.PrintMore
set_option linter.unusedVariables false

theorem rdL1 (xs : List (List ByteArray)) (i : Nat) (h : i < xs.length) : rd_L1 xs (i : Int) = xs[i] := by
  simp [rd_L1, List.getD_eq_getElem?_getD, h]

/-- Few texts: so many, so short. -/
def Small (l : List ByteArray) : Prop := l.length ≤ 20 ∧ ∀ s ∈ l, s.size ≤ 100
theorem few06_l0 (l0 : List ByteArray) (l1 : List (List ByteArray)) (h0 : l0.length ≤ 9223372036854775807) (h1 : l1.length ≤ 9223372036854775807) (h2 : ∀ x ∈ l1, x.length ≤ 9223372036854775807) (d : Nat) :
    ∀ i, i ≤ l1.length → i ≤ 7 → 7 - i = d → (∀ j x, j < i → l1[j]? = some x → Small x) →
    ∃ b, (∀ k, 2 * d + 50 ≤ k → sennitref06_Few.l0 k l0 l1 (i : Int) = some b) ∧ (b = true → Small l0 ∧ l1.length ≤ 6 ∧ ∀ x ∈ l1, Small x) := by
  have fin : ∀ i, i ≤ l1.length → ¬ (i < l1.length ∧ i < 7) → (∀ j x, j < i → l1[j]? = some x → Small x) →
      ∃ b, (∀ k, 50 ≤ k → sennitref06_Few.l0 k l0 l1 (i : Int) = some b) ∧ (b = true → Small l0 ∧ l1.length ≤ 6 ∧ ∀ x ∈ l1, Small x) := by
    intro i hi hn hp
    obtain ⟨b, hb, hB⟩ := few_f l0 20 (by omega) h0
    refine ⟨b && decide ((l1.length : Int) ≤ 6), fun k hk => ?_, fun h => ?_⟩
    · obtain ⟨k, rfl⟩ : ∃ q, k = q + 2 := ⟨k - 2, by omega⟩
      have e : sennitref06_Few.j1 (k + 1) l0 l1 (i : Int) false = some (b && decide ((l1.length : Int) ≤ 6)) := by
        rw [sennitref06_Few.j1, if_neg (by decide), show (20 : Int) = ((20 : Nat) : Int) from rfl, hb k (by omega), Option.bind_some]
        cases b <;> simp
      rw [sennitref06_Few.l0]
      by_cases h : i < l1.length
      · rw [if_pos (by omega), decide_eq_false (by omega), e]
      · rw [if_neg (by omega), e]
    · simp only [Bool.and_eq_true, decide_eq_true_eq] at h
      refine ⟨hB h.1, by omega, fun x hx => ?_⟩
      obtain ⟨j, hj⟩ := List.getElem?_of_mem hx
      have := (List.getElem?_eq_some_iff.1 hj).1
      exact hp j x (by omega) hj
  induction d with
  | zero =>
    intro i hi hi7 hd hp
    obtain ⟨b, h1, h2⟩ := fin i hi (by omega) hp
    exact ⟨b, fun k hk => h1 k (by omega), h2⟩
  | succ d ih =>
    intro i hi hi7 hd hp
    by_cases hc : i < l1.length
    · obtain ⟨c, hcc, hC⟩ := few_f l1[i] 20 (by omega) (h2 _ (List.getElem_mem hc))
      cases c with
      | true =>
        obtain ⟨b, hb, hB⟩ := ih (i + 1) (by omega) (by omega) (by omega) (fun j x hj hx => by
          by_cases e : j = i
          · subst e
            rw [List.getElem?_eq_getElem hc] at hx
            injection hx with hx
            rw [← hx]; exact hC rfl
          · exact hp j x (by omega) hx)
        refine ⟨b, fun k hk => ?_, hB⟩
        obtain ⟨k, rfl⟩ : ∃ q, k = q + 2 := ⟨k - 2, by omega⟩
        rw [sennitref06_Few.l0, if_pos (by omega), decide_eq_true (by omega), sennitref06_Few.j1, if_pos rfl, if_pos (by omega), if_pos (by omega), rdL1 _ _ hc, show (20 : Int) = ((20 : Nat) : Int) from rfl, hcc k (by omega), Option.bind_some, if_pos rfl, wrap_succ hc h1]
        exact hb k (by omega)
      | false =>
        refine ⟨false, fun k hk => ?_, fun h => by cases h⟩
        obtain ⟨k, rfl⟩ : ∃ q, k = q + 2 := ⟨k - 2, by omega⟩
        rw [sennitref06_Few.l0, if_pos (by omega), decide_eq_true (by omega), sennitref06_Few.j1, if_pos rfl, if_pos (by omega), if_pos (by omega), rdL1 _ _ hc, show (20 : Int) = ((20 : Nat) : Int) from rfl, hcc k (by omega), Option.bind_some, if_neg (by decide)]
    · obtain ⟨b, h1, h2⟩ := fin i hi (by omega) hp
      exact ⟨b, fun k hk => h1 k (by omega), h2⟩
theorem few06_f (l0 : List ByteArray) (l1 : List (List ByteArray)) (h0 : l0.length ≤ 9223372036854775807) (h1 : l1.length ≤ 9223372036854775807) (h2 : ∀ x ∈ l1, x.length ≤ 9223372036854775807) :
    ∃ b, (∀ k, 100 ≤ k → sennitref06_Few.f k l0 l1 = some b) ∧ (b = true → Small l0 ∧ l1.length ≤ 6 ∧ ∀ x ∈ l1, Small x) := by
  obtain ⟨b, hb, hB⟩ := few06_l0 l0 l1 h0 h1 h2 7 0 (by omega) (by omega) (by omega) (fun j x hj => by omega)
  exact ⟨b, fun k hk => hb k (by omega), hB⟩

theorem all_l0 (a b : List (List ByteArray)) (hab : a.length = b.length) (hm : a.length ≤ 9223372036854775807) (M : Nat) (hM : ∀ x ∈ a, x.length < M) (hM2 : M ≤ 1000) (d : Nat) : ∀ (i k : Nat), i ≤ a.length → a.length - i = d → d + M ≤ k →
    sennitref06_All.l0 (k + 1) a b (i : Int) = some (decide (a.drop i = b.drop i)) := by
  induction d with
  | zero =>
    intro i k hi hd hk
    simp only [sennitref06_All.l0]
    rw [if_neg (by omega), List.drop_of_length_le (by omega), List.drop_of_length_le (by omega)]
    simp
  | succ d ih =>
    intro i k hi hd hk
    have hlt : i < a.length := by omega
    have hlt2 : i < b.length := by omega
    obtain ⟨k, rfl⟩ : ∃ q, k = q + 1 := ⟨k - 1, by omega⟩
    have hl := hM _ (List.getElem_mem hlt)
    rw [sennitref06_All.l0, if_pos (by omega), if_pos (by omega), if_pos (by omega), rdL1 _ _ hlt, rdL1 _ _ hlt2, same_f _ _ (by omega) _ (by omega), Option.bind_some, wrap_succ hlt hm, ih (i + 1) k (by omega) (by omega) (by omega)]
    have ee : (a.drop i = b.drop i) ↔ (a[i] = b[i] ∧ a.drop (i + 1) = b.drop (i + 1)) := by rw [List.drop_eq_getElem_cons hlt, List.drop_eq_getElem_cons hlt2, List.cons.injEq]
    by_cases h : a[i] = b[i]
    · rw [decide_eq_true h, if_pos rfl]
      congr 1
      simp only [ee, h, true_and]
    · rw [decide_eq_false h, if_neg (by decide)]
      congr 1
      simp only [ee, h, false_and, decide_false]
theorem all_f (a b : List (List ByteArray)) (M : Nat) (hM : ∀ x ∈ a, x.length < M) (hM2 : M ≤ 1000) (hm : a.length ≤ 1000) (k : Nat) (hk : a.length + M < k) : sennitref06_All.f k a b = some (decide (a = b)) := by
  unfold sennitref06_All.f
  obtain ⟨k, rfl⟩ : ∃ q, k = q + 1 := ⟨k - 1, by omega⟩
  by_cases h : a.length = b.length
  · rw [if_pos (by omega)]
    have := all_l0 a b h (by omega) M hM hM2 a.length 0 k (by omega) (by omega) (by omega)
    simpa using this
  · rw [if_neg (by omega)]
    have : ¬ a = b := fun e => h (by rw [e])
    simp [this]

/-- The reference's inner loop: is the part the base's, or one ahead? -/
theorem diff_l1 (l0 : List ByteArray) (l1 acc : List (List ByteArray)) (M : Nat) (hM : ∀ x ∈ l1, x.length < M) (hM2 : M ≤ 1000) (hn : l1.length ≤ 1000) (ha : acc.length ≤ 1000) (i : Nat) (hi : i < l1.length) (d : Nat) :
    ∀ (j k : Nat) (b : Bool), j + d = i → M ≤ k → sennitref06_Differing.l1 (k + d + 1) l0 l1 acc (i : Int) b (j : Int) =
      sennitref06_Differing.l0 k l0 l1 (if (b || ((l1.take i).drop j).any fun z => decide (l1[i] = z)) = true then acc else acc ++ [l1[i]]) ((i + 1 : Nat) : Int) := by
  induction d with
  | zero =>
    intro j k b hj hk
    obtain rfl : j = i := by omega
    rw [sennitref06_Differing.l1, if_neg (by omega), wrap_succ hi (by omega), List.drop_of_length_le (by simp; omega)]
    cases b with
    | true => rw [if_pos rfl]; rfl
    | false => rw [if_neg (by decide), if_pos (by omega), if_pos (by omega), if_pos (by omega), rdL1 _ _ hi]; rfl
  | succ d ih =>
    intro j k b hj hk
    have hj2 : j < l1.length := by omega
    have hd : (l1.take i).drop j = l1[j] :: (l1.take i).drop (j + 1) := by
      rw [List.drop_eq_getElem_cons (by simp; omega)]; simp
    rw [show k + (d + 1) + 1 = (k + d + 1) + 1 by omega, sennitref06_Differing.l1, if_pos (by omega), wrap_succ hj2 (by omega), hd, List.any_cons]
    have hl := hM _ (List.getElem_mem hi)
    cases b with
    | true => rw [if_pos rfl, ih (j + 1) k true (by omega) hk]; simp
    | false =>
      rw [if_neg (by decide), if_pos (by omega), if_pos (by omega), if_pos (by omega), if_pos (by omega), rdL1 _ _ hi, rdL1 _ _ hj2, same_f _ _ (by omega) _ (by omega), Option.bind_some, ih (j + 1) k _ (by omega) hk, Bool.false_or]
theorem diff_l0 (l0 : List ByteArray) (l1 : List (List ByteArray)) (M : Nat) (hM : ∀ x ∈ l1, x.length < M) (hM2 : M ≤ 1000) (hn : l1.length ≤ 1000) (d : Nat) :
    ∀ (i k : Nat) (acc : List (List ByteArray)), i + d = l1.length → acc.length ≤ i → M + d * (l1.length + 3) + 1 ≤ k → (∀ z ∈ acc, z ∈ l1.take i) → (∀ z ∈ l1.take i, z = l0 ∨ z ∈ acc) →
      sennitref06_Differing.l0 k l0 l1 acc (i : Int) = some (othersG l0 (l1.drop i) acc) := by
  induction d with
  | zero =>
    intro i k acc hi ha hk h1 h2
    obtain ⟨k, rfl⟩ : ∃ m, k = m + 1 := ⟨k - 1, by omega⟩
    rw [sennitref06_Differing.l0, if_neg (by omega), List.drop_of_length_le (by omega)]
    rfl
  | succ d ih =>
    intro i k acc hi ha hk h1 h2
    have hlt : i < l1.length := by omega
    have hl := hM _ (List.getElem_mem hlt)
    have hk2 : M + d * (l1.length + 3) + 1 + (l1.length + 3) ≤ k := by rw [Nat.succ_mul] at hk; omega
    obtain ⟨q, rfl⟩ : ∃ q, k = (q + i + 1) + 1 := ⟨k - i - 2, by omega⟩
    rw [sennitref06_Differing.l0, if_pos (by omega), if_pos (by omega), rdL1 _ _ hlt, same_f _ _ (by omega) _ (by omega), Option.bind_some]
    have := diff_l1 l0 l1 acc M hM hM2 hn (by omega) i hlt i 0 q (decide (l1[i] = l0)) (by omega) (by omega)
    rw [show ((0 : Nat) : Int) = 0 from rfl] at this
    rw [this, List.drop_zero]
    have hcond : (decide (l1[i] = l0) || (l1.take i).any fun z => decide (l1[i] = z)) = (decide (l1[i] = l0) || acc.any fun z => decide (l1[i] = z)) := by
      rw [Bool.eq_iff_iff]
      simp only [Bool.or_eq_true, decide_eq_true_eq, List.any_eq_true]
      constructor
      · rintro (h | ⟨z, hz, h⟩)
        · exact .inl h
        · rcases h2 z hz with h3 | h3
          · exact .inl (h.trans h3)
          · exact .inr ⟨z, h3, h⟩
      · rintro (h | ⟨z, hz, h⟩)
        · exact .inl h
        · exact .inr ⟨z, h1 z hz, h⟩
    rw [hcond, List.drop_eq_getElem_cons hlt]
    have ht := take_snoc l1 i l1[i] (List.getElem?_eq_getElem hlt)
    by_cases hc : (decide (l1[i] = l0) || acc.any fun z => decide (l1[i] = z)) = true
    · rw [if_pos hc, ih (i + 1) q acc (by omega) (by omega) (by omega)]
      · simp only [othersG, if_pos hc]
      · intro z hz; rw [ht]; exact List.mem_append_left _ (h1 z hz)
      · intro z hz
        rw [ht] at hz
        rcases List.mem_append.1 hz with h | h
        · exact h2 z h
        · rw [List.mem_singleton.1 h]
          simp only [Bool.or_eq_true, decide_eq_true_eq, List.any_eq_true] at hc
          rcases hc with h3 | ⟨y, hy, h3⟩
          · exact .inl h3
          · exact .inr (by rw [h3]; exact hy)
    · rw [if_neg hc, ih (i + 1) q _ (by omega) (by simp; omega) (by omega)]
      · simp only [othersG, if_neg hc]
      · intro z hz
        rw [ht]
        rcases List.mem_append.1 hz with h | h
        · exact List.mem_append_left _ (h1 z h)
        · exact List.mem_append_right _ h
      · intro z hz
        rw [ht] at hz
        rcases List.mem_append.1 hz with h | h
        · rcases h2 z h with h3 | h3
          · exact .inl h3
          · exact .inr (List.mem_append_left _ h3)
        · exact .inr (List.mem_append_right _ h)
theorem diff_f (l0 : List ByteArray) (l1 : List (List ByteArray)) (hM : ∀ x ∈ l1, x.length < 21) (hn : l1.length ≤ 8) (k : Nat) (hk : 200 ≤ k) : sennitref06_Differing.f k l0 l1 = some (othersG l0 l1 []) := by
  unfold sennitref06_Differing.f
  have := diff_l0 l0 l1 21 hM (by omega) (by omega) l1.length 0 k [] (by omega) (by simp) (by
    have : l1.length * (l1.length + 3) ≤ 8 * 11 := Nat.mul_le_mul hn (by omega)
    omega) (by simp) (by simp)
  simpa using this
theorem Differing_f (l0 : List ByteArray) (l1 : List (List ByteArray)) (hn : l1.length ≤ 1000) (k : Nat) : content_Differing.f k l0 l1 = some (othersG l0 l1 []) := by
  unfold content_Differing.f
  have := othersG_len l0 l1 []
  rw [if_pos (by simp at this; omega)]

/-! What othersG is. -/
theorem othersG_mem (x : List ByteArray) (l acc : List (List ByteArray)) : ∀ z ∈ othersG x l acc, z ∈ acc ∨ (z ∈ l ∧ z ≠ x) := by
  induction l generalizing acc with
  | nil => intro z hz; exact .inl hz
  | cons y l ih =>
    intro z hz
    simp only [othersG] at hz
    rcases ih _ z hz with h | h
    · split at h
      · exact .inl h
      · rename_i hc
        rcases List.mem_append.1 h with h | h
        · exact .inl h
        · rw [List.mem_singleton.1 h]
          simp only [Bool.or_eq_true, decide_eq_true_eq, not_or] at hc
          exact .inr ⟨List.mem_cons_self, hc.1⟩
    · exact .inr ⟨List.mem_cons_of_mem _ h.1, h.2⟩
theorem othersG_acc (x : List ByteArray) (l acc : List (List ByteArray)) : ∀ z ∈ acc, z ∈ othersG x l acc := by
  induction l generalizing acc with
  | nil => intro z hz; exact hz
  | cons y l ih =>
    intro z hz
    simp only [othersG]
    refine ih _ z ?_
    split
    · exact hz
    · exact List.mem_append_left _ hz
theorem othersG_all (x : List ByteArray) (l acc : List (List ByteArray)) : ∀ z ∈ l, z = x ∨ z ∈ othersG x l acc := by
  induction l generalizing acc with
  | nil => intro z hz; cases hz
  | cons y l ih =>
    intro z hz
    simp only [othersG]
    rcases List.mem_cons.1 hz with rfl | h
    · by_cases hc : (decide (z = x) || acc.any fun t => decide (z = t)) = true
      · rw [if_pos hc]
        simp only [Bool.or_eq_true, decide_eq_true_eq, List.any_eq_true] at hc
        rcases hc with h | ⟨t, ht, h⟩
        · exact .inl h
        · exact .inr (othersG_acc x l acc z (by rw [h]; exact ht))
      · rw [if_neg hc]
        exact .inr (othersG_acc x l _ z (List.mem_append_right _ (List.mem_singleton.2 rfl)))
    · exact ih _ z h
theorem othersG_nodup (x : List ByteArray) (l acc : List (List ByteArray)) (h : acc.Nodup) : (othersG x l acc).Nodup := by
  induction l generalizing acc with
  | nil => exact h
  | cons y l ih =>
    simp only [othersG]
    refine ih _ ?_
    split
    · exact h
    · rename_i hc
      simp only [Bool.or_eq_true, decide_eq_true_eq, List.any_eq_true, not_or, not_exists, not_and] at hc
      rw [List.nodup_append]
      refine ⟨h, by simp, fun a ha b hb => ?_⟩
      rw [List.mem_singleton.1 hb]
      exact fun e => hc.2 a ha e.symm
end Go.Proofs.Ytiaoppikdgoieaa.Pure
