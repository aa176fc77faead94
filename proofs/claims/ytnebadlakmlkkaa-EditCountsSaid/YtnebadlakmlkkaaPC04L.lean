/- The law's own call, that all is awake. Plain Lean. -/
import Derived.Test.YtnebadlakmlkkaaPC04
import Derived.Test.YtnebadlakmlkkaaF22
namespace Go.Proofs.Ytnebadlakmlkkaa.Pure
open Go.RowKit Go.Proofs.Ytnebadlakmlkkaa.M Go.Proofs.Ytnebadlakmlkkaa.Hand Go.Proofs.YtnebadlakmlkkaaW.PrintWords Go.Proofs.YtnebadlakmlkkaaW.PrintLast Go.Proofs.YtnebadlakmlkkaaW.PrintMore
theorem awake04_10 : sennitlaw04_awake.f 10 = some true := by decide +kernel
theorem awake04 (k : Nat) (hk : 10 ≤ k) : sennitlaw04_awake.f k = some true := by
  obtain ⟨d, rfl⟩ : ∃ d, k = 10 + d := ⟨k - 10, by omega⟩
  clear hk
  induction d with
  | zero => exact awake04_10
  | succ d ih => exact sennitlaw04_awake.mono _ _ ih
end Go.Proofs.Ytnebadlakmlkkaa.Pure
