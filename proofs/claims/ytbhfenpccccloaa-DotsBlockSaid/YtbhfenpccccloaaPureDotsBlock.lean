/- The plain law of DotsBlock: what the printed functions answer is true. -/
import Derived.Test.YtbhfenpccccloaaPC15
import Derived.Test.YtbhfenpccccloaaF3
namespace Go.Proofs.Ytbhfenpccccloaa.Pure
open Go.RowKit Go.Proofs.Ytbhfenpccccloaa.M Go.Proofs.Ytbhfenpccccloaa.Hand Go.Proofs.YtbhfenpccccloaaW.PrintWords Go.Proofs.YtbhfenpccccloaaW.PrintLast Go.Proofs.YtbhfenpccccloaaW.PrintMore
set_option linter.unusedVariables false
theorem DotsBlock (l0 : List ByteArray) (n0 : l0.length ≤ 9223372036854775807) (o0 : ∀ s ∈ l0, s.size ≤ 9223372036854775807) : ∃ k, sennitlaw15_DotsBlock.f k l0 = some true := by
  obtain ⟨b, hb, hB⟩ := few_f l0 30 (by omega) n0
  refine ⟨1000, ?_⟩
  unfold sennitlaw15_DotsBlock.f
  rw [awake15 _ (by omega), Option.bind_some, show (30 : Int) = ((30 : Nat) : Int) from rfl, hb _ (by omega), Option.bind_some]
  cases b with
  | false => rfl
  | true =>
    obtain ⟨h1, h2⟩ := hB rfl
    have h3 : ∀ s ∈ l0, s.size ≤ 1000000 := fun s hs => by have := h2 s hs; omega
    rw [if_pos rfl]
    rw [Block_f l0 (by omega) h3, Option.bind_some, Strip_f l0 (by omega) (fun s hs => by have := h3 s hs; omega), Option.bind_some, dottedL_f l0 n0 _ (by omega), Option.bind_some, if_pos rfl, block_f l0 (by omega) h3 _ (by omega), Option.bind_some,
      same_f _ _ (by simp; omega) _ (by simp; omega), Option.bind_some, if_pos (by simp), if_pos (by simp), strip_f l0 (by omega) _ (by omega), Option.bind_some, same_f _ _ (by simp; omega) _ (by simp; omega), Option.bind_some, if_pos (by simp)]
    simp
end Go.Proofs.Ytbhfenpccccloaa.Pure
