/- Texts of the claim PickSame, put together (part 7): Layer 7: pieces as they come in. The plain law of PickSame: what the printed functions answer is true. -/
import Derived.ArgAppend
import Derived.Below
import Derived.BigQuiet
import Derived.ChangeArms
import Derived.Deep.AppendLies
import Derived.Deep.CutBlock
import Derived.Deep.DeepCutAuto
import Derived.Deep.Draws
import Derived.Deep.LoopGhost
import Derived.Deep.OwnRows
import Derived.Deep.QuietTactic
import Derived.Deep.RegionHeld3
import Derived.Deep.Slices
import Derived.KernelRfl
import Derived.Laws.BitsLemmas
import Derived.Laws.BytesArg
import Derived.Laws.EntriesVeiled
import Derived.Laws.IdiomCopy
import Derived.Laws.MakeOwn
import Derived.Laws.OwnMore
import Derived.Laws.Rows
import Derived.Laws.Slices
import Derived.Lib.AppendStr
import Derived.Lib.ConvBytes
import Derived.Maps.AppendAt
import Derived.OpenShut
import Derived.OrdersHeld
import Derived.OwnWalk
import Derived.RangeFuncBox
import Derived.RowKit
import Derived.RowKit3
import Derived.Tactics
import Derived.Test.YtiaoppikdgoieaaProg
import Derived.Test.YtiaoppikdgoieaaWApart
import Derived.Test.YtiaoppikdgoieaaWArr
import Derived.Test.YtiaoppikdgoieaaWAt
import Derived.Test.YtiaoppikdgoieaaWEqStruct
import Derived.Test.YtiaoppikdgoieaaWFoot
import Derived.Test.YtiaoppikdgoieaaWFootNe
import Derived.Test.YtiaoppikdgoieaaWFour
import Derived.Test.YtiaoppikdgoieaaWGuard
import Derived.Test.YtiaoppikdgoieaaWInv
import Derived.Test.YtiaoppikdgoieaaWInvWords
import Derived.Test.YtiaoppikdgoieaaWKept
import Derived.Test.YtiaoppikdgoieaaWLast
import Derived.Test.YtiaoppikdgoieaaWMore
import Derived.Test.YtiaoppikdgoieaaWN
import Derived.Test.YtiaoppikdgoieaaWNEv
import Derived.Test.YtiaoppikdgoieaaWQPut
import Derived.Test.YtiaoppikdgoieaaWRepsOne
import Derived.Test.YtiaoppikdgoieaaWShare
import Derived.Test.YtiaoppikdgoieaaWTab
import Derived.Test.YtiaoppikdgoieaaWWords
import Derived.Test.YtiaoppikdgoieaaWZeros
import Derived.WalkKit
import Derived.WideLaws
import Derived.Test.YtiaoppikdgoieaaPickSameQ6
namespace Go.Proofs.Ytiaoppikdgoieaa.Pure
open Go.RowKit Go.Proofs.Ytiaoppikdgoieaa.M Go.Proofs.Ytiaoppikdgoieaa.Hand Go.Proofs.YtiaoppikdgoieaaW.PrintWords Go.Proofs.YtiaoppikdgoieaaW.PrintLast Go.Proofs.YtiaoppikdgoieaaW.PrintMore
theorem okIn_of {p : S27} (h : ok_27 p) : okIn p := ⟨h.2.1.1, h.2.2.1.1, h.2.2.2.1, fun x hx => (h.2.2.2.2 x hx).1⟩
theorem okIn_all {l : List S27} (h : ∀ p ∈ l, ok_27 p) : ∀ p ∈ l, okIn p := fun p hp => okIn_of (h p hp)
end Go.Proofs.Ytiaoppikdgoieaa.Pure
namespace Go.Proofs.Ytiaoppikdgoieaa.Pure
open Go.RowKit Go.Proofs.Ytiaoppikdgoieaa.M Go.Proofs.Ytiaoppikdgoieaa.Hand Go.Proofs.YtiaoppikdgoieaaW.PrintWords Go.Proofs.YtiaoppikdgoieaaW.PrintLast Go.Proofs.YtiaoppikdgoieaaW.PrintMore
set_option linter.unusedVariables false
theorem PickSame_ (l0 l1 : List S27) (n0 : l0.length ≤ 9223372036854775807) (o0 : ∀ p ∈ l0, okIn p) (n1 : l1.length ≤ 9223372036854775807) (o1 : ∀ p ∈ l1, okIn p) : ∃ k, sennitlaw07_PickSame.f k l0 l1 = some true := by
  obtain ⟨b0, h0, B0⟩ := few07_f l0 n0 o0
  obtain ⟨b1, h1, B1⟩ := few07_f l1 n1 o1
  refine ⟨1000, ?_⟩
  unfold sennitlaw07_PickSame.f
  rw [awake07 _ (by omega), Option.bind_some, h0 _ (by omega), Option.bind_some, h1 _ (by omega), Option.bind_some]
  cases b0 with
  | false => rw [if_neg (by decide), show (1000 : Nat) = 999 + 1 from rfl, sennitlaw07_PickSame.j0]; rfl
  | true =>
    cases b1 with
    | false => rw [if_pos rfl, show (1000 : Nat) = 999 + 1 from rfl, sennitlaw07_PickSame.j0]; rfl
    | true =>
      obtain ⟨a1, a2⟩ := B0 rfl
      have a3 : ∀ p ∈ l0, p.f3.length ≤ 800 ∧ ∀ x ∈ p.f3, x.length ≤ 800 := fun p hp => ⟨by have := (a2 p hp).2.2.1; omega, fun x hx => by have := ((a2 p hp).2.2.2 x hx).1; omega⟩
      rw [if_pos rfl, show (1000 : Nat) = 999 + 1 from rfl, sennitlaw07_PickSame.j0, if_neg (show ¬ (!true) = true by decide), if_pos rfl, pSame_f _ _ _ (by omega), Option.bind_some, rSame_f _ _ _ (by omega) a3, Option.bind_some, if_pos (by simp), pSame_f _ _ _ (by omega), Option.bind_some, sameG_self]
theorem PickSame (l0 : List S27) (n0 : l0.length ≤ 9223372036854775807) (o0 : ∀ p ∈ l0, ok_27 p) (l1 : List S27) (n1 : l1.length ≤ 9223372036854775807) (o1 : ∀ p ∈ l1, ok_27 p) : ∃ k, sennitlaw07_PickSame.f k l0 l1 = some true :=
  PickSame_ l0 l1 n0 (okIn_all o0) n1 (okIn_all o1)
end Go.Proofs.Ytiaoppikdgoieaa.Pure
