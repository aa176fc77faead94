/- What the functions of layer 14 tell, with rounds enough. Plain Lean. -/
import Derived.Test.YtbhfenpccccloaaPC01
import Derived.Test.YtbhfenpccccloaaF38
import Derived.Test.YtbhfenpccccloaaF39
import Derived.Test.YtbhfenpccccloaaF41
import Derived.Test.YtbhfenpccccloaaF43
import Derived.Test.YtbhfenpccccloaaF45
namespace Go.Proofs.Ytbhfenpccccloaa.Pure
open Go.RowKit Go.Proofs.Ytbhfenpccccloaa.M Go.Proofs.Ytbhfenpccccloaa.Hand Go.Proofs.YtbhfenpccccloaaW.PrintWords Go.Proofs.YtbhfenpccccloaaW.PrintLast Go.Proofs.YtbhfenpccccloaaW.PrintMore
set_option linter.unusedVariables false
set_option linter.unusedSimpArgs false

theorem equal_l0 (a b : List ByteArray) (hab : a.length = b.length) (hm : a.length ≤ 9223372036854775807) (d : Nat) : ∀ (i k : Nat), i ≤ a.length → a.length - i = d → d < k →
    slices_Equal_string_string.l0 k a b (a.length : Int) (i : Int) = some (decide (a.drop i = b.drop i)) := by
  induction d with
  | zero =>
    intro i k hi hd hk
    obtain ⟨k, rfl⟩ : ∃ m, k = m + 1 := ⟨k - 1, by omega⟩
    rw [slices_Equal_string_string.l0, if_neg (by omega), List.drop_of_length_le (by omega), List.drop_of_length_le (by omega)]
    simp
  | succ d ih =>
    intro i k hi hd hk
    obtain ⟨k, rfl⟩ : ∃ m, k = m + 1 := ⟨k - 1, by omega⟩
    have hlt : i < a.length := by omega
    have hlt2 : i < b.length := by omega
    rw [slices_Equal_string_string.l0, if_pos (by omega), if_pos (by omega), if_pos (by omega), if_pos (by omega), wrap_succ hlt hm, ih (i + 1) k (by omega) (by omega) (by omega)]
    have d1 := List.drop_eq_getElem_cons hlt
    have d2 := List.drop_eq_getElem_cons hlt2
    have ee : (a.drop i = b.drop i) ↔ (a[i] = b[i] ∧ a.drop (i + 1) = b.drop (i + 1)) := by rw [d1, d2, List.cons.injEq]
    rw [rdOf_get _ _ _ hlt, rdOf_get _ _ _ hlt2]
    by_cases h : a[i].toList = b[i].toList
    · rw [if_pos h]
      have h2 := bytes_ext _ _ h
      congr 1
      simp only [ee, h2, true_and]
    · rw [if_neg h]
      have h2 : ¬ a[i] = b[i] := fun e => h (by rw [e])
      congr 1
      simp only [ee, h2, false_and, decide_false]
theorem equal_f (a b : List ByteArray) (hm : a.length ≤ 9223372036854775807) (k : Nat) (hk : a.length < k) : slices_Equal_string_string.f k a b = some (decide (a = b)) := by
  unfold slices_Equal_string_string.f
  by_cases h : a.length = b.length
  · rw [if_pos (by omega)]
    have := equal_l0 a b h hm a.length 0 k (by omega) (by omega) hk
    simpa using this
  · rw [if_neg (by omega)]
    have : ¬ a = b := fun e => h (by rw [e])
    simp [this]
def kindG (m o y : List ByteArray) : Int := if m = o then (if y = o then 0 else 2) else if y = o then 1 else if m = y then 3 else 4
theorem kind_f (m o y : List ByteArray) (hm : m.length ≤ 30) (hy : y.length ≤ 30) (k : Nat) (hk : 40 ≤ k) : flags_Kind.f k m o y = some (kindG m o y) := by
  obtain ⟨k, rfl⟩ : ∃ q, k = q + 1 := ⟨k - 1, by omega⟩
  unfold flags_Kind.f kindG
  rw [equal_f m o (by omega) _ (by omega), Option.bind_some, equal_f y o (by omega) _ (by omega), Option.bind_some]
  simp only [flags_Kind.j0, equal_f m y (show m.length ≤ 9223372036854775807 by omega) k (by omega), Option.bind_some, decide_eq_true_eq]
  by_cases h1 : m = o <;> by_cases h2 : y = o <;> by_cases h3 : m = y <;> simp [h1, h2, h3]
theorem kindR_f (m o y : List ByteArray) (hm : m.length ≤ 30) (hy : y.length ≤ 30) (k : Nat) (hk : 40 ≤ k) : sennitref14_Kind.f k m o y = some (kindG m o y) := by
  obtain ⟨k, rfl⟩ : ∃ q, k = q + 1 := ⟨k - 1, by omega⟩
  unfold sennitref14_Kind.f kindG
  rw [same_f m o (by omega) _ (by omega), Option.bind_some, same_f y o (by omega) _ (by omega), Option.bind_some]
  simp only [sennitref14_Kind.j0, same_f m y (show m.length ≤ 9223372036854775807 by omega) k (by omega), Option.bind_some, decide_eq_true_eq]
  by_cases h1 : m = o <;> by_cases h2 : y = o <;> by_cases h3 : m = y <;> simp [h1, h2, h3]
theorem few14 (a b c : List ByteArray) (ha : a.length ≤ 9223372036854775807) (hb : b.length ≤ 9223372036854775807) (hc : c.length ≤ 9223372036854775807) :
    ∃ t, (∀ k, 50 ≤ k → sennitlaw14_few.f k a b c = some t) ∧ (t = true → (a.length ≤ 16 ∧ ∀ s ∈ a, s.size ≤ 100) ∧ (b.length ≤ 16 ∧ ∀ s ∈ b, s.size ≤ 100) ∧ (c.length ≤ 16 ∧ ∀ s ∈ c, s.size ≤ 100)) := by
  obtain ⟨x, hx, hX⟩ := few_f a 16 (by omega) ha
  obtain ⟨y, hy, hY⟩ := few_f b 16 (by omega) hb
  obtain ⟨z, hz, hZ⟩ := few_f c 16 (by omega) hc
  refine ⟨x && (y && z), fun k hk => ?_, fun h => ?_⟩
  · unfold sennitlaw14_few.f
    rw [show (16 : Int) = ((16 : Nat) : Int) from rfl, hx k (by omega), Option.bind_some, hy k (by omega), hz k (by omega)]
    cases x <;> cases y <;> cases z <;> rfl
  · simp only [Bool.and_eq_true] at h
    exact ⟨hX h.1, hY h.2.1, hZ h.2.2⟩
theorem known_f (a : Int) (h0 : 0 ≤ a) (h : a ≤ 255) (k : Nat) : flags_Known.f k a = some (knownG a) := by unfold flags_Known.f; rw [if_pos ⟨h0, h⟩]
theorem does_f (a t : Int) (h0 : 0 ≤ a) (h : a ≤ 255) (k : Nat) : flags_Does.f k a t = some (doesG a t) := by unfold flags_Does.f; rw [if_pos ⟨h0, h⟩]
theorem knownR_f (a : Int) : sennitref14_Known.f a = some (knownG a) := by
  unfold sennitref14_Known.f knownG
  by_cases h1 : a = 101
  · simp [h1]
  by_cases h2 : a = 120
  · simp [h2]
  by_cases h3 : a = 51
  · simp [h3]
  by_cases h4 : a = 69
  · simp [h4]
  by_cases h5 : a = 88
  · simp [h5]
  by_cases h6 : a = 65
  · simp [h6]
  simp [h1, h2, h3, h4, h5, h6]
theorem doesR_f (a t : Int) (k : Nat) (hk : 5 ≤ k) : sennitref14_Does.f k a t = some (doesG a t) := by
  obtain ⟨k, rfl⟩ : ∃ q, k = q + 3 := ⟨k - 3, by omega⟩
  unfold sennitref14_Does.f
  rw [knownR_f, Option.bind_some]
  simp only [sennitref14_Does.j0, sennitref14_Does.j1, knownG, doesG, rowOf, decide_eq_true_eq]
  by_cases h1 : a = 101
  · subst h1; by_cases t2 : t = 2 <;> by_cases t4 : t = 4 <;> simp [t2, t4]
  by_cases h2 : a = 120
  · subst h2; by_cases t2 : t = 2 <;> by_cases t4 : t = 4 <;> simp [t2, t4]
  by_cases h3 : a = 51
  · subst h3; by_cases t2 : t = 2 <;> by_cases t4 : t = 4 <;> simp [t2, t4]
  by_cases h4 : a = 69
  · subst h4; by_cases t2 : t = 2 <;> by_cases t4 : t = 4 <;> simp [t2, t4]
  by_cases h5 : a = 88
  · subst h5; by_cases t2 : t = 2 <;> by_cases t4 : t = 4 <;> simp [t2, t4]
  by_cases h6 : a = 65
  · subst h6; by_cases t2 : t = 2 <;> by_cases t4 : t = 4 <;> simp [t2, t4]
  simp [h1, h2, h3, h4, h5, h6]
def resultG (a0 : Int) (l1 l2 l3 : List ByteArray) : List ByteArray := if doesG a0 (kindG l1 l2 l3) = 0 then l1 else if doesG a0 (kindG l1 l2 l3) = 1 then l3 else bracketG (doesG a0 (kindG l1 l2 l3)) l1 l2 l3
theorem result_f (a0 : Int) (h0 : 0 ≤ a0) (h255 : a0 ≤ 255) (l1 l2 l3 : List ByteArray) (h1 : l1.length ≤ 16 ∧ ∀ s ∈ l1, s.size ≤ 100) (h2 : l2.length ≤ 16 ∧ ∀ s ∈ l2, s.size ≤ 100) (h3 : l3.length ≤ 16 ∧ ∀ s ∈ l3, s.size ≤ 100) (k : Nat) (hk : 40 ≤ k) :
    flags_Result.f k a0 l1 l2 l3 = some (resultG a0 l1 l2 l3) := by
  have ok : ∀ l : List ByteArray, (l.length ≤ 16 ∧ ∀ s ∈ l, s.size ≤ 100) → okL l := fun l h => ⟨by omega, fun s hs => by have := h.2 s hs; omega⟩
  unfold flags_Result.f
  rw [kind_f l1 l2 l3 (by omega) (by omega) k hk, Option.bind_some, does_f a0 _ h0 h255, Option.bind_some, if_pos ⟨ok l1 h1, ok l2 h2, ok l3 h3⟩]
  rfl
theorem resultG_len (a0 : Int) (l1 l2 l3 : List ByteArray) (h1 : l1.length ≤ 16) (h2 : l2.length ≤ 16) (h3 : l3.length ≤ 16) : (resultG a0 l1 l2 l3).length ≤ 60 := by
  unfold resultG
  split
  · omega
  · split
    · omega
    · have := br3_len (doesG a0 (kindG l1 l2 l3)) l1 l2 l3
      unfold bracketG
      rw [List.length_append]
      simp
      omega
theorem awakeR : bracketG 3 [⟨#[97, 10]⟩] [] [⟨#[99]⟩] = [⟨#[60, 60, 60, 60, 60, 60, 60, 32, 77, 73, 78, 69, 10]⟩, ⟨#[97, 10]⟩, ⟨#[124, 124, 124, 124, 124, 124, 124, 32, 79, 76, 68, 69, 82, 10]⟩, ⟨#[61, 61, 61, 61, 61, 61, 61, 10]⟩, ⟨#[99, 10]⟩, ⟨#[62, 62, 62, 62, 62, 62, 62, 33, 32, 89, 79, 85, 82, 83, 10]⟩] := by decide +kernel
theorem awake14 (k : Nat) (hk : 40 ≤ k) : sennitlaw14_awake.f k = some true := by
  have hR : resultG 65 [⟨#[97, 10]⟩] [] [⟨#[99]⟩] = bracketG 3 [⟨#[97, 10]⟩] [] [⟨#[99]⟩] := by decide +kernel
  have k1 : kindG [⟨#[97, 10]⟩] [⟨#[97, 10]⟩] [⟨#[97, 10]⟩] = 0 := by decide +kernel
  have k2 : kindG [⟨#[97, 10]⟩] [] [⟨#[97, 10]⟩] = 3 := by decide +kernel
  unfold sennitlaw14_awake.f
  rw [Option.bind_some, result_f 65 (by omega) (by omega) _ _ _ (by decide) (by decide) (by decide) k hk, Option.bind_some, hR, awakeR, kind_f _ _ _ (by decide) (by decide) k hk, Option.bind_some, k1, if_pos rfl, kind_f _ _ _ (by decide) (by decide) k hk, Option.bind_some, k2, if_pos rfl, known_f _ (by omega) (by omega), Option.bind_some, known_f _ (by omega) (by omega), Option.bind_some, does_f _ _ (by omega) (by omega), Option.bind_some]
  simp [knownG, doesG, rowOf, rdOf, ByteArray.toList_eq]
end Go.Proofs.Ytbhfenpccccloaa.Pure
