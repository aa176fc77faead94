/- The plain law of EditTells: what the printed functions answer is true. -/
import Derived.Test.YtnebadlakmlkkaaPC04L
import Derived.Test.YtnebadlakmlkkaaF7
namespace Go.Proofs.Ytnebadlakmlkkaa.Pure
open Go.RowKit Go.Proofs.Ytnebadlakmlkkaa.M Go.Proofs.Ytnebadlakmlkkaa.Hand Go.Proofs.YtnebadlakmlkkaaW.PrintWords Go.Proofs.YtnebadlakmlkkaaW.PrintLast Go.Proofs.YtnebadlakmlkkaaW.PrintMore
set_option linter.unusedVariables false
set_option linter.unusedSimpArgs false
theorem EditTells (l0 : List Int) (n0 : l0.length ≤ 9223372036854775807) (o0 : ∀ y ∈ l0, (Lit.int .i64 y).wf = true) (a1 : Int) (o1 : (Lit.int .i64 a1).wf = true) : ∃ k, sennitlaw04_EditTells.f k l0 a1 = some true := by
  refine ⟨10000, ?_⟩
  obtain ⟨_, w1⟩ := wf64 o1
  unfold sennitlaw04_EditTells.f
  rw [awake04 _ (by omega), Option.bind_some]
  by_cases h : (l0.length : Int) > 60
  · rw [if_pos h]
  · have hc := chg_len a1 l0 0 0 0
    rw [if_neg h, Changes_f, Option.bind_some, ChangesR_f l0 a1 n0 w1 _ (by omega), Option.bind_some, if_pos rfl, if_pos rfl, same04_f _ _ (by split <;> (try split) <;> simp <;> omega) _ (by split <;> (try split) <;> simp <;> omega), Option.bind_some]
    simp
end Go.Proofs.Ytnebadlakmlkkaa.Pure
