/- Texts of the claim PickTells, put together (part 7): What the cells of the struct parameters read as. -/
import Derived.ArgAppend
import Derived.Below
import Derived.BigQuiet
import Derived.ChangeArms
import Derived.Deep.AppendLies
import Derived.Deep.CutBlock
import Derived.Deep.DeepCutAuto
import Derived.Deep.Draws
import Derived.Deep.LoopGhost
import Derived.Deep.OwnRows
import Derived.Deep.QuietTactic
import Derived.Deep.RegionHeld3
import Derived.Deep.Slices
import Derived.KernelRfl
import Derived.Laws.BitsLemmas
import Derived.Laws.BytesArg
import Derived.Laws.IdiomCopy
import Derived.Laws.MakeOwn
import Derived.Laws.OwnMore
import Derived.Laws.Rows
import Derived.Laws.Slices
import Derived.Lib.AppendStr
import Derived.Lib.ConvBytes
import Derived.Maps.AppendAt
import Derived.OpenShut
import Derived.OrdersHeld
import Derived.OwnWalk
import Derived.RowKit
import Derived.RowKit3
import Derived.Tactics
import Derived.Test.YtiaoppikdgoieaaProg
import Derived.Test.YtiaoppikdgoieaaWApart
import Derived.Test.YtiaoppikdgoieaaWArr
import Derived.Test.YtiaoppikdgoieaaWAt
import Derived.Test.YtiaoppikdgoieaaWEqStruct
import Derived.Test.YtiaoppikdgoieaaWFoot
import Derived.Test.YtiaoppikdgoieaaWFootNe
import Derived.Test.YtiaoppikdgoieaaWFour
import Derived.Test.YtiaoppikdgoieaaWGuard
import Derived.Test.YtiaoppikdgoieaaWInv
import Derived.Test.YtiaoppikdgoieaaWInvWords
import Derived.Test.YtiaoppikdgoieaaWKept
import Derived.Test.YtiaoppikdgoieaaWLast
import Derived.Test.YtiaoppikdgoieaaWMore
import Derived.Test.YtiaoppikdgoieaaWN
import Derived.Test.YtiaoppikdgoieaaWNEv
import Derived.Test.YtiaoppikdgoieaaWQPut
import Derived.Test.YtiaoppikdgoieaaWRepsOne
import Derived.Test.YtiaoppikdgoieaaWShare
import Derived.Test.YtiaoppikdgoieaaWTab
import Derived.Test.YtiaoppikdgoieaaWWords
import Derived.Test.YtiaoppikdgoieaaWZeros
import Derived.WalkKit
import Derived.WideLaws
import Derived.Test.YtiaoppikdgoieaaPickTellsQ6
namespace Go.Proofs.Ytiaoppikdgoieaa.M
open Go.RowKit Go.Proofs.YtiaoppikdgoieaaW.PrintWords Go.Proofs.YtiaoppikdgoieaaW.PrintLast Go.Proofs.YtiaoppikdgoieaaW.PrintMore
set_option linter.unusedVariables false
set_option linter.unusedSimpArgs false
/-! #### struct type 30 -/
structure S30 where
  f0 : Int
  f1 : Bool
def k30 : Kd S30 := Kd.iso (Kd.pair (Kd.int .i64) Kd.bool) (fun x : S30 => (x.f0, x.f1))
theorem k30_open {w : World} {x : S30} {cs : List Value} (h : k30.K w x cs) : cs = [.int .i64 x.f0, .bool x.f1] := by
  obtain ⟨_, _, rfl, rfl, rfl⟩ := h
  exact rfl
def ok_30 (x : S30) : Prop := ((Lit.int .i64 x.f0).wf = true) ∧ (True)
theorem opn_30 : Opn.Opn Try.prog k30 30 ok_30 := by
  intro H enc w base spare held fuel cs x h
  obtain ⟨_, _, _, _, hl, _, _⟩ := DataW.trod_struct Try.underlying30 h
  rw [show Try.prog.cellsOf 30 = 2 from by kernel_rfl] at hl
  obtain ⟨a0, h0, o0⟩ := Opn.opn_field Try.underlying30 h 0 _ rfl (Opn.opn_int .i64 Try.underlying3)
  obtain ⟨a1, h1, o1⟩ := Opn.opn_field Try.underlying30 h 1 _ rfl (Opn.opn_bool Try.underlying4)
  match cs, hl with
  | [c0, c1], _ =>
    have g0 : (Kd.int .i64).K w a0 [c0] := by
      have e : Try.prog.cellsOf 3 = 1 := by kernel_rfl
      have h' : (Kd.int .i64).K w a0 ((List.drop 0 [c0, c1]).take (Try.prog.cellsOf 3)) := h0
      rw [e] at h'
      exact h'
    have g1 : Kd.bool.K w a1 [c1] := by
      have e : Try.prog.cellsOf 4 = 1 := by kernel_rfl
      have h' : Kd.bool.K w a1 ((List.drop 1 [c0, c1]).take (Try.prog.cellsOf 4)) := h1
      rw [e] at h'
      exact h'
    exact ⟨⟨a0, a1⟩, ⟨[c0], [c1], rfl, g0, g1⟩, ⟨o0, o1⟩⟩
end Go.Proofs.Ytiaoppikdgoieaa.M
