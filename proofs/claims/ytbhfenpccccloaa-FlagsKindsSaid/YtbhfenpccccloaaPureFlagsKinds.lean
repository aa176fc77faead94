/- The plain law of FlagsKinds: what the printed functions answer is true. -/
import Derived.Test.YtbhfenpccccloaaPC14
import Derived.Test.YtbhfenpccccloaaF13
namespace Go.Proofs.Ytbhfenpccccloaa.Pure
open Go.RowKit Go.Proofs.Ytbhfenpccccloaa.M Go.Proofs.Ytbhfenpccccloaa.Hand Go.Proofs.YtbhfenpccccloaaW.PrintWords Go.Proofs.YtbhfenpccccloaaW.PrintLast Go.Proofs.YtbhfenpccccloaaW.PrintMore
set_option linter.unusedVariables false
set_option linter.unusedSimpArgs false
theorem FlagsKinds (l0 : List ByteArray) (n0 : l0.length ≤ 9223372036854775807) (o0 : ∀ s ∈ l0, s.size ≤ 9223372036854775807) (l1 : List ByteArray) (n1 : l1.length ≤ 9223372036854775807) (o1 : ∀ s ∈ l1, s.size ≤ 9223372036854775807) (l2 : List ByteArray) (n2 : l2.length ≤ 9223372036854775807) (o2 : ∀ s ∈ l2, s.size ≤ 9223372036854775807) : ∃ k, sennitlaw14_FlagsKinds.f k l0 l1 l2 = some true := by
  obtain ⟨t, ht, hT⟩ := few14 l0 l1 l2 n0 n1 n2
  refine ⟨100, ?_⟩
  unfold sennitlaw14_FlagsKinds.f
  rw [awake14 _ (by omega), Option.bind_some, ht _ (by omega), Option.bind_some]
  cases t with
  | false => rfl
  | true =>
    obtain ⟨⟨a1, a2⟩, ⟨b1, b2⟩, ⟨c1, c2⟩⟩ := hT rfl
    rw [if_pos rfl, kind_f l0 l1 l2 (by omega) (by omega) _ (by omega), Option.bind_some, kind_f l2 l1 l0 (by omega) (by omega) _ (by omega), Option.bind_some]
    simp only [kindR_f l0 l1 l2 (show l0.length ≤ 30 by omega) (show l2.length ≤ 30 by omega) 100 (by omega), Option.bind_some, if_true]
    unfold kindG
    by_cases h1 : l0 = l1
    · by_cases h2 : l2 = l1
      · simp [h1, h2]
      · simp [h1, h2]
    · by_cases h2 : l2 = l1
      · simp [h1, h2]
      · by_cases h3 : l0 = l2
        · simp [h2, h3]
        · have h4 : ¬ l2 = l0 := fun e => h3 e.symm
          simp [h1, h2, h3, h4]
end Go.Proofs.Ytbhfenpccccloaa.Pure
