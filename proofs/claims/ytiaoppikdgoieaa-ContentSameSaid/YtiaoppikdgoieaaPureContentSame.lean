/- The plain law of ContentSame: what the printed functions answer is true. -/
import Derived.Test.YtiaoppikdgoieaaPC06L
import Derived.Test.YtiaoppikdgoieaaF9
namespace Go.Proofs.Ytiaoppikdgoieaa.Pure
open Go.RowKit Go.Proofs.Ytiaoppikdgoieaa.M Go.Proofs.Ytiaoppikdgoieaa.Hand Go.Proofs.YtiaoppikdgoieaaW.PrintWords Go.Proofs.YtiaoppikdgoieaaW.PrintLast Go.Proofs.YtiaoppikdgoieaaW.PrintMore
set_option linter.unusedVariables false
def pairC (x0 : List ByteArray) (x1 : List (List ByteArray)) (j k : Nat) : Bool := decide (x1.getD j [] = x0) || (decide (x1.getD k [] = x0) || decide (x1.getD j [] = x1.getD k []))
def pairsC (x0 : List ByteArray) (x1 : List (List ByteArray)) (i : Nat) : Bool := (List.range i).all fun j => (List.range' 0 j).all (pairC x0 x1 j)
section
variable (x0 : List ByteArray) (x1 : List (List ByteArray)) (hM : ∀ x ∈ x1, x.length < 21) (hn : x1.length ≤ 6)
include hM hn
theorem same_l1 (up al : Bool) (r : Bool) (K i : Nat) (hi : i < x1.length) (d : Nat) :
    ∀ (j k : Nat) (one : Bool), j + d = i → (∀ q, K ≤ q → sennitlaw06_ContentSame.l0 q x0 x1 up al (one && (List.range' j d).all (pairC x0 x1 i)) ((i + 1 : Nat) : Int) = some r) → K + d + 22 ≤ k → sennitlaw06_ContentSame.l1 k x0 x1 up al one (i : Int) (j : Int) = some r := by
  induction d with
  | zero =>
    intro j k one hj hK hk
    obtain ⟨k, rfl⟩ : ∃ m, k = m + 1 := ⟨k - 1, by omega⟩
    rw [sennitlaw06_ContentSame.l1, if_neg (by omega), wrap_succ hi (by omega)]
    have := hK k (by omega)
    simpa using this
  | succ d ih =>
    intro j k one hj hK hk
    have hlt : j < x1.length := by omega
    obtain ⟨k, rfl⟩ : ∃ m, k = m + 1 := ⟨k - 1, by omega⟩
    have hl1 := hM _ (List.getElem_mem hi)
    have hl2 := hM _ (List.getElem_mem hlt)
    rw [List.range'_succ, List.all_cons] at hK
    rw [sennitlaw06_ContentSame.l1, if_pos (by omega), wrap_succ hlt (by omega)]
    cases one with
    | false =>
      rw [if_neg (by decide)]
      exact ih (j + 1) k false (by omega) (fun q hq => by simpa using hK q hq) (by omega)
    | true =>
      have hp : pairC x0 x1 i j = (decide (x1[i] = x0) || (decide (x1[j] = x0) || decide (x1[i] = x1[j]))) := by
        unfold pairC
        simp [List.getD_eq_getElem?_getD, hi, hlt]
      rw [if_pos rfl, if_pos (by omega), if_pos (by omega), rdL1 _ _ hi, same_f _ _ (by omega) _ (by omega), Option.bind_some]
      by_cases e : x1[i] = x0
      · rw [decide_eq_true e, if_pos rfl]
        exact ih (j + 1) k true (by omega) (fun q hq => by have := hK q hq; rw [hp, decide_eq_true e] at this; simpa using this) (by omega)
      · rw [decide_eq_false e, if_neg (by decide), if_pos (by omega), if_pos (by omega), rdL1 _ _ hlt, same_f _ _ (by omega) _ (by omega), Option.bind_some]
        by_cases e2 : x1[j] = x0
        · rw [decide_eq_true e2, if_pos rfl]
          exact ih (j + 1) k true (by omega) (fun q hq => by have := hK q hq; rw [hp, decide_eq_true e2] at this; simpa using this) (by omega)
        · rw [decide_eq_false e2, if_neg (by decide), same_f _ _ (by omega) _ (by omega), Option.bind_some]
          exact ih (j + 1) k _ (by omega) (fun q hq => by have := hK q hq; rw [hp, decide_eq_false e, decide_eq_false e2] at this; simpa using this) (by omega)
theorem sameC_l0 (v : Int) (hv : ∀ k, content_Kind.f k x0 x1 = some v)
    (h0 : (v == 0) = x1.all fun z => decide (z = x0)) (h1 : (v == 1) = (pairsC x0 x1 x1.length && !(x1.all fun z => decide (z = x0)))) (h2 : (v == 2) = !pairsC x0 x1 x1.length) (d : Nat) :
    ∀ (i k : Nat), i + d = x1.length → d * 40 + 1 ≤ k → sennitlaw06_ContentSame.l0 k x0 x1 true ((x1.take i).all fun z => decide (z = x0)) (pairsC x0 x1 i) (i : Int) = some true := by
  induction d with
  | zero =>
    intro i k hi hk
    obtain ⟨k, rfl⟩ : ∃ m, k = m + 1 := ⟨k - 1, by omega⟩
    obtain rfl : i = x1.length := by omega
    rw [sennitlaw06_ContentSame.l0, if_neg (by omega), hv, Option.bind_some, if_pos rfl, List.take_length, h0, h1, h2, if_pos (by simp)]
    generalize pairsC x0 x1 x1.length = b
    generalize (x1.all fun z => decide (z = x0)) = c
    revert b c
    decide
  | succ d ih =>
    intro i k hi hk
    have hlt : i < x1.length := by omega
    obtain ⟨k, rfl⟩ : ∃ m, k = m + 1 := ⟨k - 1, by omega⟩
    have hl1 := hM _ (List.getElem_mem hlt)
    have ht := take_snoc x1 i x1[i] (List.getElem?_eq_getElem hlt)
    have hp : pairsC x0 x1 (i + 1) = (pairsC x0 x1 i && (List.range' 0 i).all (pairC x0 x1 i)) := by
      unfold pairsC
      rw [List.range_succ, List.all_append]
      simp
    have hall : ((x1.take (i + 1)).all fun z => decide (z = x0)) = (((x1.take i).all fun z => decide (z = x0)) && decide (x1[i] = x0)) := by
      rw [ht, List.all_append]; simp
    have go : ∀ al, al = (((x1.take i).all fun z => decide (z = x0)) && decide (x1[i] = x0)) → ∀ m, d * 40 + 1 + i + 22 ≤ m → sennitlaw06_ContentSame.l1 m x0 x1 true al (pairsC x0 x1 i) (i : Int) 0 = some true := by
      intro al hal m hm
      refine same_l1 x0 x1 hM hn true al true (d * 40 + 1) i hlt i 0 m (pairsC x0 x1 i) (by omega) (fun q hq => ?_) (by omega)
      rw [← hp, hal, ← hall]
      exact ih (i + 1) q (by omega) hq
    rw [sennitlaw06_ContentSame.l0, if_pos (by omega)]
    obtain ⟨m, rfl⟩ : ∃ m, k = m + 1 := ⟨k - 1, by omega⟩
    by_cases e : ((x1.take i).all fun z => decide (z = x0)) = true
    · rw [if_pos e, if_pos (by omega), rdL1 _ _ hlt, same_f _ _ (by omega) _ (by omega), Option.bind_some, sennitlaw06_ContentSame.j1]
      exact go _ (by rw [e]; simp) m (by omega)
    · rw [if_neg e, sennitlaw06_ContentSame.j1]
      exact go _ (by rw [eq_false_of_ne_true e]; simp) m (by omega)
end
theorem ContentSame (l0 : List ByteArray) (n0 : l0.length ≤ 9223372036854775807) (o0 : ∀ s ∈ l0, s.size ≤ 9223372036854775807) (l1 : List (List ByteArray)) (n1 : l1.length ≤ 9223372036854775807) (o1 : ∀ x ∈ l1, x.length ≤ 9223372036854775807 ∧ ∀ s ∈ x, s.size ≤ 9223372036854775807) : ∃ k, sennitlaw06_ContentSame.f k l0 l1 = some true := by
  obtain ⟨b, hb, hB⟩ := few06_f l0 l1 n0 n1 (fun x hx => (o1 x hx).1)
  refine ⟨1000, ?_⟩
  unfold sennitlaw06_ContentSame.f
  rw [awake06, Option.bind_some, hb _ (by omega), Option.bind_some]
  cases b with
  | false => rfl
  | true =>
    obtain ⟨h1, h2, h3⟩ := hB rfl
    have hM : ∀ x ∈ l1, x.length < 21 := fun x hx => by have := (h3 x hx).1; omega
    have hall : (∀ z ∈ l1, z = l0) ↔ othersG l0 l1 [] = [] := by
      constructor
      · intro h
        cases e : othersG l0 l1 [] with
        | nil => rfl
        | cons g t =>
          rcases othersG_mem l0 l1 [] g (by rw [e]; simp) with h4 | h4
          · cases h4
          · exact absurd (h g h4.1) h4.2
      · intro h z hz
        rcases othersG_all l0 l1 [] z hz with h4 | h4
        · exact h4
        · rw [h] at h4; cases h4
    have hone : pairsC l0 l1 l1.length = true ↔ (othersG l0 l1 []).length ≤ 1 := by
      constructor
      · intro h
        cases e : othersG l0 l1 [] with
        | nil => simp
        | cons g t =>
          cases t with
          | nil => simp
          | cons g2 t =>
            exfalso
            have hnd := othersG_nodup l0 l1 [] List.nodup_nil
            rw [e] at hnd
            have hne : g ≠ g2 := fun c => by rw [List.nodup_cons] at hnd; exact hnd.1 (by rw [c]; simp)
            have key : ∀ y z : List ByteArray, y ∈ othersG l0 l1 [] → z ∈ othersG l0 l1 [] → y ≠ z → ∀ a c : Nat, l1[a]? = some y → l1[c]? = some z → c < a → False := by
              intro y z hy hz hyz a c ha hc hca
              have hya : y ≠ l0 := by rcases othersG_mem l0 l1 [] y hy with h4 | h4; cases h4; exact h4.2
              have hza : z ≠ l0 := by rcases othersG_mem l0 l1 [] z hz with h4 | h4; cases h4; exact h4.2
              have hal := (List.getElem?_eq_some_iff.1 ha).1
              unfold pairsC at h
              have := List.all_eq_true.1 (List.all_eq_true.1 h a (by simp; omega)) c (by simp [List.mem_range']; omega)
              unfold pairC at this
              rw [List.getD_eq_getElem?_getD, List.getD_eq_getElem?_getD, ha, hc] at this
              simp [hya, hza, hyz] at this
            have mem : ∀ y, y ∈ othersG l0 l1 [] → ∃ a : Nat, l1[a]? = some y := by
              intro y hy
              rcases othersG_mem l0 l1 [] y hy with h4 | h4
              · cases h4
              · exact List.getElem?_of_mem h4.1
            obtain ⟨a, ha⟩ := mem g (by rw [e]; simp)
            obtain ⟨c, hc⟩ := mem g2 (by rw [e]; simp)
            rcases Nat.lt_trichotomy a c with h5 | h5 | h5
            · exact key g2 g (by rw [e]; simp) (by rw [e]; simp) hne.symm c a hc ha h5
            · rw [h5, hc] at ha; exact hne (by injection ha with ha; exact ha.symm)
            · exact key g g2 (by rw [e]; simp) (by rw [e]; simp) hne a c ha hc h5
      · intro h
        unfold pairsC
        rw [List.all_eq_true]
        intro j hj
        rw [List.all_eq_true]
        intro k hk
        simp [List.mem_range'] at hj hk
        have hk2 : k < l1.length := by omega
        unfold pairC
        simp only [List.getD_eq_getElem?_getD, List.getElem?_eq_getElem hj, List.getElem?_eq_getElem hk2, Option.getD_some, Bool.or_eq_true, decide_eq_true_eq]
        rcases othersG_all l0 l1 [] _ (List.getElem_mem hj) with h4 | h4
        · exact .inl h4
        · rcases othersG_all l0 l1 [] _ (List.getElem_mem hk2) with h5 | h5
          · exact .inr (.inl h5)
          · refine .inr (.inr ?_)
            match e : othersG l0 l1 [], h with
            | [], _ => rw [e] at h4; cases h4
            | [g], _ => rw [e] at h4 h5; rw [List.mem_singleton.1 h4, List.mem_singleton.1 h5]
    rw [if_pos rfl]
    have hk := Kind_f l0 l1 (by omega)
    have A : (l1.all fun z => decide (z = l0)) = decide (othersG l0 l1 [] = []) := by
      rw [Bool.eq_iff_iff, decide_eq_true_eq, ← hall, List.all_eq_true]
      simp
    have B : pairsC l0 l1 l1.length = decide ((othersG l0 l1 []).length ≤ 1) := by
      rw [Bool.eq_iff_iff, decide_eq_true_eq, hone]
    have := sameC_l0 l0 l1 hM h2 _ hk ?_ ?_ ?_ l1.length 0 1000 (by omega) (by omega)
    · simpa [pairsC] using this
    all_goals
      rw [Bool.eq_iff_iff]
      simp only [A, B, beq_iff_eq, Bool.and_eq_true, Bool.not_eq_true', decide_eq_true_eq, decide_eq_false_iff_not]
      unfold mn
      (try rw [← List.length_eq_zero_iff])
      split <;> omega
end Go.Proofs.Ytiaoppikdgoieaa.Pure
