/- The plain law of EditBack: what the printed functions answer is true. -/
import Derived.Test.YtnebadlakmlkkaaPC04L
import Derived.Test.YtnebadlakmlkkaaF9
namespace Go.Proofs.Ytnebadlakmlkkaa.Pure
open Go.RowKit Go.Proofs.Ytnebadlakmlkkaa.M Go.Proofs.Ytnebadlakmlkkaa.Hand Go.Proofs.YtnebadlakmlkkaaW.PrintWords Go.Proofs.YtnebadlakmlkkaaW.PrintLast Go.Proofs.YtnebadlakmlkkaaW.PrintMore
set_option linter.unusedVariables false
set_option linter.unusedSimpArgs false
theorem EditBack (l0 : List Int) (n0 : l0.length ≤ 9223372036854775807) (o0 : ∀ y ∈ l0, (Lit.int .i64 y).wf = true) (a1 : Int) (o1 : (Lit.int .i64 a1).wf = true) : ∃ k, sennitlaw04_EditBack.f k l0 a1 = some true := by
  refine ⟨10001, ?_⟩
  obtain ⟨_, w1⟩ := wf64 o1
  have tr : ∀ b : Bool, b = true → sennitlaw04_EditBack.j0 10001 l0 a1 true b = some true := fun b e => by
    rw [sennitlaw04_EditBack.j0, if_pos e]
  unfold sennitlaw04_EditBack.f
  rw [awake04 _ (by omega), Option.bind_some]
  by_cases h : (l0.length : Int) > 60
  · rw [if_pos h]; exact tr _ rfl
  · rw [if_neg h, mayR_f a1 w1 l0 n0 _ (by omega), Option.bind_some]
    by_cases h3 : MayF a1 0 l0
    · have hn := mayF_le _ _ h3
      rw [decide_eq_true h3, if_pos rfl]
      by_cases h2 : a1 > 2000
      · rw [decide_eq_true h2]; exact tr _ rfl
      · have n2 : ¬ ((l0.length : Int) > 2000 ∨ a1 > 2000) := by omega
        have n3 : (l0.length : Int) > 2000 ∨ wrap64 (2001 + a1) > 2000 := .inr (by rw [wrap_id (by omega) (by omega)]; omega)
        have e1 := matchG_back a1 l0 (by omega) (by omega) h3
        have e2 := matchG_long (chg a1 0 0 0 l0) (wrap64 (2001 + a1)) a1 (.inl (by rw [wrap_id (by omega) (by omega)]; omega))
        rw [decide_eq_false h2, sennitlaw04_EditBack.j0, if_neg (by decide), Changes_f, Option.bind_some, if_neg n2, if_pos h3]
        unfold edit_Match.f
        simp only [e1, e2]
        rw [Option.bind_some, Changes_f, Option.bind_some, if_pos n3, Option.bind_some, if_pos rfl, if_pos trivial, if_pos trivial, same02_f _ _ (by simp only; omega) _ (by simp only; omega), Option.bind_some, if_pos (by simp)]
        rfl
    · rw [decide_eq_false h3, if_neg (by decide)]; exact tr _ rfl
end Go.Proofs.Ytnebadlakmlkkaa.Pure
