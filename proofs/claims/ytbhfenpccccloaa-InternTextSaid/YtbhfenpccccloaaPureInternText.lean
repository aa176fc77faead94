/- The plain law of InternText. -/
import Derived.Test.YtbhfenpccccloaaPC02
import Derived.Test.YtbhfenpccccloaaF12
namespace Go.Proofs.Ytbhfenpccccloaa.Pure
open Go.RowKit Go.Proofs.Ytbhfenpccccloaa.M Go.Proofs.Ytbhfenpccccloaa.Hand Go.Proofs.YtbhfenpccccloaaW.PrintWords Go.Proofs.YtbhfenpccccloaaW.PrintLast Go.Proofs.YtbhfenpccccloaaW.PrintMore
set_option linter.unusedVariables false
set_option linter.unusedSimpArgs false
theorem InternText (l0 : List ByteArray) (n0 : l0.length ≤ 9223372036854775807) (o0 : ∀ s ∈ l0, s.size ≤ 9223372036854775807) (a1 : Int) (o1 : (Lit.int .i64 a1).wf = true) : ∃ k, sennitlaw02_InternText.f k l0 a1 = some true := by
  obtain ⟨b, hb, hB⟩ := few_f l0 40 (by omega) n0
  refine ⟨1000, ?_⟩
  unfold sennitlaw02_InternText.f
  rw [show (40 : Int) = ((40 : Nat) : Int) from rfl, hb _ (by omega), Option.bind_some]
  cases b with
  | false => rfl
  | true =>
    obtain ⟨h1, h2⟩ := hB rfl
    rw [if_pos rfl, if_pos h1, if_pos (List.all_eq_true.2 (fun s hs => by simpa using h2 s hs))]
end Go.Proofs.Ytbhfenpccccloaa.Pure
