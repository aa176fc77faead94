/- Layer 6: the reference's parts, the awake function, the kinds. Plain Lean. -/
import Derived.Test.YtiaoppikdgoieaaPC06
import Derived.Test.YtiaoppikdgoieaaF25
import Derived.Test.YtiaoppikdgoieaaF27
import Derived.Test.YtiaoppikdgoieaaF31
namespace Go.Proofs.Ytiaoppikdgoieaa.Pure
open Go.RowKit Go.Proofs.Ytiaoppikdgoieaa.M Go.Proofs.Ytiaoppikdgoieaa.Hand Go.Proofs.YtiaoppikdgoieaaW.PrintWords Go.Proofs.YtiaoppikdgoieaaW.PrintLast Go.Proofs.YtiaoppikdgoieaaW.PrintMore
set_option linter.unusedVariables false

theorem rdT35 (xs : List S35) (i : Nat) (h : i < xs.length) : rd_T35 xs (i : Int) = xs[i] := by
  simp [rd_T35, List.getD_eq_getElem?_getD, h]
theorem within_f (f t : Int) (n : Nat) : sennitref06_within.f f t (n : Int) = some (spanB f t n) := by
  unfold sennitref06_within.f spanB
  by_cases h1 : f ≥ 0
  · rw [if_pos h1, decide_eq_true (show (0 : Int) ≤ f from h1)]
    by_cases h2 : f ≤ t
    · rw [if_pos h2, decide_eq_true h2]; simp
    · rw [if_neg h2, decide_eq_false h2]; simp
  · rw [if_neg h1, decide_eq_false (show ¬ (0 : Int) ≤ f from h1)]; simp
theorem cut_eq {f t : Int} {l : List ByteArray} (h : spanB f t l.length = true) : cutL f t l = (l.take t.toNat).drop f.toNat := by unfold cutL; rw [if_pos h]
theorem span_facts {f t : Int} {n : Nat} (h : spanB f t n = true) : 0 ≤ f ∧ f ≤ t ∧ t ≤ (n : Int) := by
  simp only [spanB, Bool.and_eq_true, decide_eq_true_eq] at h
  exact ⟨h.1.1, h.1.2, h.2⟩
theorem drop_both {α β γ : Type} (g : α → β → γ) (a : List α) (b : List β) (i : Nat) (ha : i < a.length) (hb : i < b.length) : List.zipWith g (a.drop i) (b.drop i) = g a[i] b[i] :: List.zipWith g (a.drop (i + 1)) (b.drop (i + 1)) := by
  rw [List.drop_eq_getElem_cons ha, List.drop_eq_getElem_cons hb]; rfl
theorem parts_l1 (c0 : Bool) (f t : Int) (b : List ByteArray) (l : List (List ByteArray)) (sp : List S35) (hl : sp.length = l.length) (hn : l.length ≤ 1000) (hb : spanB f t b.length = true) (hs : ∀ i (h1 : i < sp.length) (h2 : i < l.length), spanB sp[i].f0 sp[i].f1 l[i].length = true) (d : Nat) :
    ∀ (i k : Nat) (acc : List (List ByteArray)), i + d = l.length → acc.length = i → d < k → sennitref06_Parts.l1 k b l acc (i : Int) c0 f t sp = some (cutL f t b, acc ++ cutsL (sp.drop i) (l.drop i), 0) := by
  induction d with
  | zero =>
    intro i k acc hi ha hk
    obtain ⟨k, rfl⟩ : ∃ m, k = m + 1 := ⟨k - 1, by omega⟩
    obtain ⟨h1, h2, h3⟩ := span_facts hb
    rw [sennitref06_Parts.l1, if_neg (by omega), if_pos h1, if_pos h2, if_pos h3, cut_eq hb, List.drop_of_length_le (show l.length ≤ i by omega)]
    simp [cutsL]
  | succ d ih =>
    intro i k acc hi ha hk
    obtain ⟨k, rfl⟩ : ∃ m, k = m + 1 := ⟨k - 1, by omega⟩
    have hlt : i < l.length := by omega
    have hlt2 : i < sp.length := by omega
    obtain ⟨h1, h2, h3⟩ := span_facts (hs i hlt2 hlt)
    rw [sennitref06_Parts.l1, if_pos (by omega), if_pos (by omega), if_pos (by omega), rdT35 _ _ hlt2, rdL1 _ _ hlt, if_pos h1, if_pos h2, if_pos h3, if_pos (by omega), wrap_succ hlt (by omega), ih (i + 1) k _ (by omega) (by simp; omega) (by omega)]
    unfold cutsL
    rw [drop_both _ sp l i hlt2 hlt, cut_eq (hs i hlt2 hlt)]
    simp
theorem parts_l0 (c0 : Bool) (f t : Int) (b : List ByteArray) (l : List (List ByteArray)) (sp : List S35) (hl : sp.length = l.length) (hn : l.length ≤ 1000) (d : Nat) :
    ∀ (i k : Nat) (ok : Bool), i + d = l.length → sennitref06_Parts.l0 (k + d + 1) b l ok (i : Int) c0 f t sp =
      if (ok && spansB (sp.drop i) (l.drop i)) = true then sennitref06_Parts.l1 k b l [] 0 c0 f t sp else some ([], [], 3) := by
  induction d with
  | zero =>
    intro i k ok hi
    have : spansB (sp.drop i) (l.drop i) = true := by rw [List.drop_of_length_le (show l.length ≤ i by omega)]; simp [spansB]
    rw [sennitref06_Parts.l0, if_neg (by omega), this, Bool.and_true]
  | succ d ih =>
    intro i k ok hi
    have hlt : i < l.length := by omega
    have hlt2 : i < sp.length := by omega
    have hc : spansB (sp.drop i) (l.drop i) = (spanB sp[i].f0 sp[i].f1 l[i].length && spansB (sp.drop (i + 1)) (l.drop (i + 1))) := by
      unfold spansB; rw [drop_both _ sp l i hlt2 hlt]; simp
    rw [show k + (d + 1) + 1 = (k + d + 1) + 1 by omega, sennitref06_Parts.l0, if_pos (by omega), wrap_succ hlt (by omega), hc]
    cases ok with
    | true => rw [if_pos rfl, if_pos (by omega), if_pos (by omega), rdT35 _ _ hlt2, rdL1 _ _ hlt, within_f, Option.bind_some, ih (i + 1) k _ (by omega), Bool.true_and]
    | false => rw [if_neg (by decide), ih (i + 1) k _ (by omega), Bool.false_and, Bool.false_and]
theorem spansB_all {sp : List S35} {l : List (List ByteArray)} (h : spansB sp l = true) : ∀ i (h1 : i < sp.length) (h2 : i < l.length), spanB sp[i].f0 sp[i].f1 l[i].length = true := by
  intro i h1 h2
  unfold spansB at h
  have := List.all_eq_true.1 h (spanB sp[i].f0 sp[i].f1 l[i].length) (by
    refine List.mem_of_getElem? (i := i) ?_
    simp [List.getElem?_zipWith, h1, h2])
  simpa using this
theorem parts_f (c0 : Bool) (f t : Int) (sp : List S35) (b : List ByteArray) (l : List (List ByteArray)) (hn : l.length ≤ 10) (k : Nat) (hk : 100 ≤ k) : sennitref06_Parts.f k c0 f t sp b l = some (partsG f t sp b l) := by
  unfold sennitref06_Parts.f partsG
  by_cases hl : sp.length = l.length
  · rw [if_pos (by omega), if_pos hl, within_f, Option.bind_some]
    obtain ⟨q, rfl⟩ : ∃ q, k = q + l.length + 1 := ⟨k - l.length - 1, by omega⟩
    have := parts_l0 c0 f t b l sp hl (by omega) l.length 0 q (spanB f t b.length) (by omega)
    rw [show ((0 : Nat) : Int) = 0 from rfl] at this
    rw [this, List.drop_zero, List.drop_zero]
    by_cases hc : (spanB f t b.length && spansB sp l) = true
    · rw [if_pos hc, if_pos hc]
      simp only [Bool.and_eq_true] at hc
      have := parts_l1 c0 f t b l sp hl (by omega) hc.1 (spansB_all hc.2) l.length 0 q [] (by omega) rfl (by omega)
      simpa using this
    · rw [if_neg hc, if_neg hc]
  · rw [if_neg (by omega), if_neg hl]
theorem Parts_f (c0 : Bool) (f t : Int) (sp : List S35) (b : List ByteArray) (l : List (List ByteArray)) (hn : l.length ≤ 1000) (k : Nat) : content_Parts.f k c0 f t sp b l = some (partsG f t sp b l) := by
  unfold content_Parts.f; rw [if_pos (by omega)]
theorem Kind_f (l0 : List ByteArray) (l1 : List (List ByteArray)) (hn : l1.length ≤ 1000) (k : Nat) : content_Kind.f k l0 l1 = some (mn ((othersG l0 l1 []).length : Int) 2) := by
  unfold content_Kind.f; rw [Differing_f l0 l1 hn, Option.bind_some]
theorem awake06 (k : Nat) : sennitlaw06_awake.f k = some true := by
  unfold sennitlaw06_awake.f
  rw [Differing_f _ _ (by decide), Option.bind_some, Parts_f _ _ _ _ _ _ (by decide), Option.bind_some, Kind_f _ _ (by decide)]
  have e1 : othersG [(⟨#[97]⟩ : ByteArray)] [[(⟨#[98]⟩ : ByteArray)], [(⟨#[97]⟩ : ByteArray)], [(⟨#[98]⟩ : ByteArray)]] [] = [[(⟨#[98]⟩ : ByteArray)]] := by decide
  have e2 : partsG 1 2 [(⟨0, 1⟩ : S35)] [(⟨#[97]⟩ : ByteArray), (⟨#[98]⟩ : ByteArray)] [[(⟨#[99]⟩ : ByteArray)]] = ([(⟨#[98]⟩ : ByteArray)], [[(⟨#[99]⟩ : ByteArray)]], 0) := by decide
  have e3 : othersG ([] : List ByteArray) [[(⟨#[97]⟩ : ByteArray)], [(⟨#[98]⟩ : ByteArray)]] [] = [[(⟨#[97]⟩ : ByteArray)], [(⟨#[98]⟩ : ByteArray)]] := by decide
  rw [e1, e2, e3]
  simp [ByteArray.toList_eq, rdOf, rd_L1, mn]
end Go.Proofs.Ytiaoppikdgoieaa.Pure
