/- The plain law of ContentTells: what the printed functions answer is true. -/
import Derived.Test.YtiaoppikdgoieaaPC06L
import Derived.Test.YtiaoppikdgoieaaF5
namespace Go.Proofs.Ytiaoppikdgoieaa.Pure
open Go.RowKit Go.Proofs.Ytiaoppikdgoieaa.M Go.Proofs.Ytiaoppikdgoieaa.Hand Go.Proofs.YtiaoppikdgoieaaW.PrintWords Go.Proofs.YtiaoppikdgoieaaW.PrintLast Go.Proofs.YtiaoppikdgoieaaW.PrintMore
set_option linter.unusedVariables false
theorem ContentTells (l0 : List ByteArray) (n0 : l0.length ≤ 9223372036854775807) (o0 : ∀ s ∈ l0, s.size ≤ 9223372036854775807) (l1 : List (List ByteArray)) (n1 : l1.length ≤ 9223372036854775807) (o1 : ∀ x ∈ l1, x.length ≤ 9223372036854775807 ∧ ∀ s ∈ x, s.size ≤ 9223372036854775807) : ∃ k, sennitlaw06_ContentTells.f k l0 l1 = some true := by
  obtain ⟨b, hb, hB⟩ := few06_f l0 l1 n0 n1 (fun x hx => (o1 x hx).1)
  refine ⟨1000, ?_⟩
  unfold sennitlaw06_ContentTells.f
  rw [awake06, Option.bind_some, hb _ (by omega), Option.bind_some]
  cases b with
  | false => rfl
  | true =>
    obtain ⟨h1, h2, h3⟩ := hB rfl
    have hM : ∀ x ∈ l1, x.length < 21 := fun x hx => by have := (h3 x hx).1; omega
    have hG := othersG_len l0 l1 []
    have hGM : ∀ x ∈ othersG l0 l1 [], x.length < 21 := fun x hx => by
      rcases othersG_mem l0 l1 [] x hx with h | h
      · cases h
      · exact hM x h.1
    rw [if_pos rfl, if_pos rfl, Differing_f l0 l1 (by omega), Option.bind_some, diff_f l0 l1 hM (by omega) _ (by omega), Option.bind_some, all_f _ _ 21 hGM (by omega) (by simp at hG; omega) _ (by simp at hG; omega), Option.bind_some, if_pos (by simp), Kind_f l0 l1 (by omega), Option.bind_some]
    unfold sennitref06_Kind.f
    rw [diff_f l0 l1 hM (by omega) _ (by omega)]
    simp
end Go.Proofs.Ytiaoppikdgoieaa.Pure
