/- Texts of the claim PickTells, put together (part 8): The plain law of PickTells: what the printed functions answer is true. -/
import Derived.ArgAppend
import Derived.Below
import Derived.BigQuiet
import Derived.ChangeArms
import Derived.Deep.AppendLies
import Derived.Deep.CutBlock
import Derived.Deep.DeepCutAuto
import Derived.Deep.Draws
import Derived.Deep.LoopGhost
import Derived.Deep.OwnRows
import Derived.Deep.QuietTactic
import Derived.Deep.RegionHeld3
import Derived.Deep.Slices
import Derived.KernelRfl
import Derived.Laws.BitsLemmas
import Derived.Laws.BytesArg
import Derived.Laws.EntriesVeiled
import Derived.Laws.IdiomCopy
import Derived.Laws.MakeOwn
import Derived.Laws.OwnMore
import Derived.Laws.Rows
import Derived.Laws.Slices
import Derived.Lib.AppendStr
import Derived.Lib.ConvBytes
import Derived.Maps.AppendAt
import Derived.OpenShut
import Derived.OrdersHeld
import Derived.OwnWalk
import Derived.RangeFuncBox
import Derived.RowKit
import Derived.RowKit3
import Derived.Tactics
import Derived.Test.YtiaoppikdgoieaaProg
import Derived.Test.YtiaoppikdgoieaaWApart
import Derived.Test.YtiaoppikdgoieaaWArr
import Derived.Test.YtiaoppikdgoieaaWAt
import Derived.Test.YtiaoppikdgoieaaWEqStruct
import Derived.Test.YtiaoppikdgoieaaWFoot
import Derived.Test.YtiaoppikdgoieaaWFootNe
import Derived.Test.YtiaoppikdgoieaaWFour
import Derived.Test.YtiaoppikdgoieaaWGuard
import Derived.Test.YtiaoppikdgoieaaWInv
import Derived.Test.YtiaoppikdgoieaaWInvWords
import Derived.Test.YtiaoppikdgoieaaWKept
import Derived.Test.YtiaoppikdgoieaaWLast
import Derived.Test.YtiaoppikdgoieaaWMore
import Derived.Test.YtiaoppikdgoieaaWN
import Derived.Test.YtiaoppikdgoieaaWNEv
import Derived.Test.YtiaoppikdgoieaaWQPut
import Derived.Test.YtiaoppikdgoieaaWRepsOne
import Derived.Test.YtiaoppikdgoieaaWShare
import Derived.Test.YtiaoppikdgoieaaWTab
import Derived.Test.YtiaoppikdgoieaaWWords
import Derived.Test.YtiaoppikdgoieaaWZeros
import Derived.WalkKit
import Derived.WideLaws
import Derived.Test.YtiaoppikdgoieaaPickTellsQ7
namespace Go.Proofs.Ytiaoppikdgoieaa.Pure
open Go.RowKit Go.Proofs.Ytiaoppikdgoieaa.M Go.Proofs.Ytiaoppikdgoieaa.Hand Go.Proofs.YtiaoppikdgoieaaW.PrintWords Go.Proofs.YtiaoppikdgoieaaW.PrintLast Go.Proofs.YtiaoppikdgoieaaW.PrintMore
set_option linter.unusedVariables false
theorem PickTells_ (l0 : List ByteArray) (n0 : l0.length ≤ 9223372036854775807) (l1 : List (List ByteArray)) (n1 : l1.length ≤ 9223372036854775807) (o1 : ∀ x ∈ l1, x.length ≤ 9223372036854775807) (a : Int) (b : Bool) : ∃ k, sennitlaw07_PickTells.f k l0 l1 a b = some true := by
  obtain ⟨t, ht, hT⟩ := few06_f l0 l1 n0 n1 o1
  refine ⟨20001, ?_⟩
  unfold sennitlaw07_PickTells.f
  rw [awake07 _ (by omega), Option.bind_some, ht _ (by omega), Option.bind_some]
  cases t with
  | false => rfl
  | true =>
    obtain ⟨h1, h2, h3⟩ := hT rfl
    have hs : ∀ p ∈ [pieceS l0 l1 a b], p.f3.length ≤ 800 ∧ ∀ x ∈ p.f3, x.length ≤ 800 := by
      intro p hp
      rw [List.mem_singleton.1 hp]
      show (pieceG l0 l1 a b).2.2.2.length ≤ 800 ∧ ∀ x ∈ (pieceG l0 l1 a b).2.2.2, x.length ≤ 800
      rcases pieceG_f3 l0 l1 a b with e | e
      · rw [e]; exact ⟨by simp, fun x hx => by cases hx⟩
      · rw [e]; exact ⟨by omega, fun x hx => by have := (h3 x hx).1; omega⟩
    have hr := rSame_f [pieceS l0 l1 a b] [pieceS l0 l1 a b] 20001 (by simp) hs
    rw [if_pos rfl, pPiece_f l0 l1 a b h2 h3 20000, Option.bind_some, rPiece_f l0 l1 a b h2 h3 _ (by omega), Option.bind_some, if_pos rfl]
    unfold pieceS at hr
    rw [hr, Option.bind_some, if_pos (sameG_self _), pick_Clean.f, Option.bind_some]
    simp
theorem PickTells (l0 : List ByteArray) (n0 : l0.length ≤ 9223372036854775807) (o0 : ∀ s ∈ l0, s.size ≤ 9223372036854775807) (l1 : List (List ByteArray)) (n1 : l1.length ≤ 9223372036854775807) (o1 : ∀ x ∈ l1, x.length ≤ 9223372036854775807 ∧ ∀ s ∈ x, s.size ≤ 9223372036854775807) (z2 : S30) (o2 : ok_30 z2) : ∃ k, sennitlaw07_PickTells.f k l0 l1 z2.f0 z2.f1 = some true :=
  PickTells_ l0 n0 l1 n1 (fun x hx => (o1 x hx).1) z2.f0 z2.f1
end Go.Proofs.Ytiaoppikdgoieaa.Pure
