/- The plain law of EditMatches: what the printed functions answer is true. -/
import Derived.Test.YtnebadlakmlkkaaPC04L
import Derived.Test.YtnebadlakmlkkaaF8
import Derived.Test.YtnebadlakmlkkaaOpnS
namespace Go.Proofs.Ytnebadlakmlkkaa.Pure
open Go.RowKit Go.Proofs.Ytnebadlakmlkkaa.M Go.Proofs.Ytnebadlakmlkkaa.Hand Go.Proofs.YtnebadlakmlkkaaW.PrintWords Go.Proofs.YtnebadlakmlkkaaW.PrintLast Go.Proofs.YtnebadlakmlkkaaW.PrintMore
set_option linter.unusedVariables false
set_option linter.unusedSimpArgs false
theorem EditMatches (l0 : List S60) (n0 : l0.length ≤ 9223372036854775807) (o0 : ∀ y ∈ l0, ok_60 y) (a1 : Int) (o1 : (Lit.int .i64 a1).wf = true) (a2 : Int) (o2 : (Lit.int .i64 a2).wf = true) : ∃ k, sennitlaw04_EditMatches.f k l0 a1 a2 = some true := by
  refine ⟨1000001, ?_⟩
  obtain ⟨_, w1⟩ := wf64 o1
  obtain ⟨_, w2⟩ := wf64 o2
  have tr : ∀ b : Bool, b = true → sennitlaw04_EditMatches.j0 1000001 l0 a1 a2 true b = some true := fun b e => by
    rw [sennitlaw04_EditMatches.j0, if_pos e]
  unfold sennitlaw04_EditMatches.f
  rw [awake04 _ (by omega), Option.bind_some]
  by_cases h : (l0.length : Int) > 20
  · rw [if_pos h]; exact tr _ rfl
  · rw [if_neg h]
    by_cases h1 : a1 > 300
    · rw [if_pos h1]; exact tr _ rfl
    · rw [if_neg h1]
      by_cases h2 : a2 > 300
      · rw [decide_eq_true h2]; exact tr _ rfl
      · have hg := gss_len l0 a2 a1.toNat 0 0
        rw [decide_eq_false h2, sennitlaw04_EditMatches.j0, if_neg (by decide)]
        unfold edit_Match.f
        rw [matchG_eq l0 a1 a2 (by omega) (by omega) (fun c hc => (wf64 (o0 c hc).2.1).1), Option.bind_some, MatchR_f l0 (by omega) a1 a2 (by omega) (by omega) _ (by omega), Option.bind_some, if_pos rfl]
        by_cases h3 : a1 < 0 ∨ a2 < 0
        · rw [if_pos h3, if_pos h3, if_pos rfl, same02_f _ _ (by simp) _ (by simp), Option.bind_some]; simp
        · have hM : MayF a2 0 (gss l0 a2 a1.toNat 0 0) := gss_may l0 a2 _ _ _ (by omega) (by omega)
          rw [if_neg h3, if_neg h3]
          simp only [hM, true_and]
          rw [if_pos trivial, same02_f _ _ (by split <;> simp <;> omega) _ (by split <;> simp <;> omega), Option.bind_some]; simp
end Go.Proofs.Ytnebadlakmlkkaa.Pure
