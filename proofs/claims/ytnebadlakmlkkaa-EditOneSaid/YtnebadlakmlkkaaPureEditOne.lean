/- The plain law of EditOne: what the printed functions answer is true. -/
import Derived.Test.YtnebadlakmlkkaaPC04L
import Derived.Test.YtnebadlakmlkkaaF10
namespace Go.Proofs.Ytnebadlakmlkkaa.Pure
open Go.RowKit Go.Proofs.Ytnebadlakmlkkaa.M Go.Proofs.Ytnebadlakmlkkaa.Hand Go.Proofs.YtnebadlakmlkkaaW.PrintWords Go.Proofs.YtnebadlakmlkkaaW.PrintLast Go.Proofs.YtnebadlakmlkkaaW.PrintMore
set_option linter.unusedVariables false
set_option linter.unusedSimpArgs false
theorem EditOne (l0 : List Int) (n0 : l0.length ≤ 9223372036854775807) (o0 : ∀ y ∈ l0, (Lit.int .i64 y).wf = true) (l1 : List Int) (n1 : l1.length ≤ 9223372036854775807) (o1 : ∀ y ∈ l1, (Lit.int .i64 y).wf = true) (a2 : Int) (o2 : (Lit.int .i64 a2).wf = true) : ∃ k, sennitlaw04_EditOne.f k l0 l1 a2 = some true := by
  refine ⟨10001, ?_⟩
  obtain ⟨_, w2⟩ := wf64 o2
  have tr : ∀ b : Bool, b = true → sennitlaw04_EditOne.j0 10001 l0 l1 a2 true b = some true := fun b e => by
    rw [sennitlaw04_EditOne.j0, if_pos e]
  unfold sennitlaw04_EditOne.f
  rw [awake04 _ (by omega), Option.bind_some]
  by_cases h : (l0.length : Int) > 60
  · rw [if_pos h]; exact tr _ rfl
  · rw [if_neg h]
    by_cases h1 : (l0.length : Int) = (l1.length : Int)
    · rw [if_pos h1]
      by_cases h2 : a2 > 300
      · rw [if_pos h2]; exact tr _ rfl
      · rw [if_neg h2, mayR_f a2 w2 l0 n0 _ (by omega), Option.bind_some]
        by_cases h3 : MayF a2 0 l0
        · rw [decide_eq_true h3, if_pos rfl, mayR_f a2 w2 l1 n1 _ (by omega), Option.bind_some]
          by_cases h4 : MayF a2 0 l1
          · have hc := chg_len a2 l0 0 0 0
            have hc1 := chg_len a2 l1 0 0 0
            have n2 : ¬ ((l0.length : Int) > 2000 ∨ a2 > 2000) := by omega
            have n3 : ¬ ((l1.length : Int) > 2000 ∨ a2 > 2000) := by omega
            rw [decide_eq_true h4, sennitlaw04_EditOne.j0, if_neg (by decide), Changes_f, Option.bind_some, Changes_f, Option.bind_some, if_pos rfl, if_neg n2, if_neg n3, if_pos h3, if_pos h4, same04_f _ _ (by simp only; omega) _ (by simp only; omega), Option.bind_some, same02_f _ _ (by omega) _ (by omega), Option.bind_some]
            have e : chg a2 0 0 0 l0 = chg a2 0 0 0 l1 ↔ l0 = l1 := ⟨fun e => by
              have e1 := mtc_back a2 l0 h3
              have e2 := mtc_back a2 l1 h4
              rw [e, h1, e2] at e1
              exact (Option.some.inj e1).symm, fun e => by rw [e]⟩
            simp [e]
          · rw [decide_eq_false h4]; exact tr _ rfl
        · rw [decide_eq_false h3, if_neg (by decide)]; exact tr _ rfl
    · rw [if_neg h1]; exact tr _ rfl
end Go.Proofs.Ytnebadlakmlkkaa.Pure
