/- The plain law of FlagsDoes: what the printed functions answer is true. -/
import Derived.Test.YtbhfenpccccloaaPC14
import Derived.Test.YtbhfenpccccloaaF14
namespace Go.Proofs.Ytbhfenpccccloaa.Pure
open Go.RowKit Go.Proofs.Ytbhfenpccccloaa.M Go.Proofs.Ytbhfenpccccloaa.Hand Go.Proofs.YtbhfenpccccloaaW.PrintWords Go.Proofs.YtbhfenpccccloaaW.PrintLast Go.Proofs.YtbhfenpccccloaaW.PrintMore
set_option linter.unusedVariables false
set_option linter.unusedSimpArgs false
theorem FlagsDoes (a0 : Int) (o0 : (Lit.int .u8 a0).wf = true) (a1 : Int) (o1 : (Lit.int .i64 a1).wf = true) : ∃ k, sennitlaw14_FlagsDoes.f k a0 a1 = some true := by
  refine ⟨100, ?_⟩
  have hw : 0 ≤ a0 ∧ a0 ≤ 255 := by
    simp [Lit.wf, IntKind.min, IntKind.max, IntKind.signed, IntKind.bits] at o0
    omega
  unfold sennitlaw14_FlagsDoes.f
  rw [awake14 _ (by omega), Option.bind_some, if_pos rfl, known_f a0 hw.1 hw.2, Option.bind_some, knownR_f, Option.bind_some, if_pos (by simp), does_f a0 a1 hw.1 hw.2, Option.bind_some, doesR_f a0 a1 _ (by omega), Option.bind_some, if_pos rfl, Option.bind_some]
  cases hk : knownG a0 with
  | true => rfl
  | false =>
    rw [if_neg (by decide), Option.bind_some]
    have : doesG a0 a1 = 0 := by
      simp only [knownG, decide_eq_false_iff_not, not_or] at hk
      obtain ⟨h1, h2, h3, h4, h5, h6⟩ := hk
      simp [doesG, rowOf, h1, h2, h3, h4, h5, h6]
    rw [this]; rfl
end Go.Proofs.Ytbhfenpccccloaa.Pure
