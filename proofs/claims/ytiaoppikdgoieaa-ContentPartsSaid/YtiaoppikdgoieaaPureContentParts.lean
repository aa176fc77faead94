/- The plain law of ContentParts: what the printed functions answer is true. -/
import Derived.Test.YtiaoppikdgoieaaPC06L
import Derived.Test.YtiaoppikdgoieaaF4
import Derived.Test.YtiaoppikdgoieaaOpnS
namespace Go.Proofs.Ytiaoppikdgoieaa.Pure
open Go.RowKit Go.Proofs.Ytiaoppikdgoieaa.M Go.Proofs.Ytiaoppikdgoieaa.Hand Go.Proofs.YtiaoppikdgoieaaW.PrintWords Go.Proofs.YtiaoppikdgoieaaW.PrintLast Go.Proofs.YtiaoppikdgoieaaW.PrintMore
set_option linter.unusedVariables false
theorem ContentParts (z0 : S38) (o0 : ok_38 z0) (l1 : List ByteArray) (n1 : l1.length ≤ 9223372036854775807) (o1 : ∀ s ∈ l1, s.size ≤ 9223372036854775807) (l2 : List (List ByteArray)) (n2 : l2.length ≤ 9223372036854775807) (o2 : ∀ x ∈ l2, x.length ≤ 9223372036854775807 ∧ ∀ s ∈ x, s.size ≤ 9223372036854775807) : ∃ k, sennitlaw06_ContentParts.f k z0.f0 z0.f1.f0 z0.f1.f1 z0.f2 l1 l2 = some true := by
  obtain ⟨b, hb, hB⟩ := few06_f l1 l2 n1 n2 (fun x hx => (o2 x hx).1)
  refine ⟨1000, ?_⟩
  unfold sennitlaw06_ContentParts.f
  rw [awake06, Option.bind_some, hb _ (by omega), Option.bind_some]
  cases b with
  | false => rw [if_neg (by decide), sennitlaw06_ContentParts.j0, if_pos rfl]
  | true =>
    obtain ⟨h1, h2, h3⟩ := hB rfl
    rw [if_pos rfl, sennitlaw06_ContentParts.j0]
    by_cases hc : (z0.f2.length : Int) > 6
    · rw [decide_eq_true hc, if_pos rfl]
    · rw [decide_eq_false hc, if_neg (by decide), Parts_f _ _ _ _ _ _ (by omega), Option.bind_some, parts_f _ _ _ _ _ _ (by omega) _ (by omega), Option.bind_some, if_pos rfl, if_pos rfl]
      have hA : (partsG z0.f1.f0 z0.f1.f1 z0.f2 l1 l2).1.length ≤ 20 := by
        unfold partsG
        have := h1.1
        split
        · split
          · unfold cutL; split <;> simp; omega
          · simp
        · simp
      have hC : (partsG z0.f1.f0 z0.f1.f1 z0.f2 l1 l2).2.1.length ≤ 6 ∧ ∀ x ∈ (partsG z0.f1.f0 z0.f1.f1 z0.f2 l1 l2).2.1, x.length < 21 := by
        unfold partsG
        split
        · split
          · refine ⟨by simp [cutsL]; omega, fun x hx => ?_⟩
            simp only [cutsL] at hx
            obtain ⟨i, hi, rfl⟩ := List.getElem_of_mem hx
            simp only [List.getElem_zipWith]
            have hi2 : i < l2.length := by simp at hi; omega
            have := (h3 _ (List.getElem_mem hi2)).1
            unfold cutL; split <;> simp; omega
          · simp
        · simp
      rw [same_f _ _ (by omega) _ (by omega), Option.bind_some, if_pos (by simp), all_f _ _ 21 hC.2 (by omega) (by omega) _ (by omega), Option.bind_some]
      simp
end Go.Proofs.Ytiaoppikdgoieaa.Pure
