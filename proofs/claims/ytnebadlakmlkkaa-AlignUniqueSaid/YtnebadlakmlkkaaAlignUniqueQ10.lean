/- Texts of the claim AlignUnique, put together (part 10): What the cells of the struct parameters read as. -/
import Derived.ArgAppend
import Derived.Below
import Derived.BigQuiet
import Derived.ChangeArms
import Derived.Deep.AppendLies
import Derived.Deep.CutBlock
import Derived.Deep.DeepCutAuto
import Derived.Deep.Draws
import Derived.Deep.LoopGhost
import Derived.Deep.OwnRows
import Derived.Deep.QuietTactic
import Derived.Deep.RegionHeld3
import Derived.Deep.Slices
import Derived.KernelRfl
import Derived.Laws.BitsLemmas
import Derived.Laws.BytesArg
import Derived.Laws.IdiomCopy
import Derived.Laws.MakeOwn
import Derived.Laws.OwnMore
import Derived.Laws.Rows
import Derived.Laws.Slices
import Derived.Laws.StructEq
import Derived.Lib.AppendStr
import Derived.Lib.ConvBytes
import Derived.Maps.AppendAt
import Derived.OpenShut
import Derived.OrdersHeld
import Derived.OwnWalk
import Derived.RowKit
import Derived.RowKit3
import Derived.Tactics
import Derived.Test.YtnebadlakmlkkaaProg
import Derived.WalkKit
import Derived.WideLaws
import Derived.Test.YtnebadlakmlkkaaAlignUniqueQ9
namespace Go.Proofs.Ytnebadlakmlkkaa.M
open Go.RowKit Go.Proofs.YtnebadlakmlkkaaW.PrintWords Go.Proofs.YtnebadlakmlkkaaW.PrintLast Go.Proofs.YtnebadlakmlkkaaW.PrintMore
set_option linter.unusedVariables false
set_option linter.unusedSimpArgs false
def ok_36 (x : S36) : Prop := ((Lit.int .i64 x.f0).wf = true) ∧ ((Lit.int .i64 x.f1).wf = true)
theorem opn_36 : Opn.Opn Try.prog k36 36 ok_36 := by
  intro H enc w base spare held fuel cs x h
  obtain ⟨_, _, _, _, hl, _, _⟩ := DataW.trod_struct Try.underlying36 h
  rw [show Try.prog.cellsOf 36 = 2 from by kernel_rfl] at hl
  obtain ⟨a0, h0, o0⟩ := Opn.opn_field Try.underlying36 h 0 _ rfl (Opn.opn_int .i64 Try.underlying3)
  obtain ⟨a1, h1, o1⟩ := Opn.opn_field Try.underlying36 h 1 _ rfl (Opn.opn_int .i64 Try.underlying3)
  match cs, hl with
  | [c0, c1], _ =>
    have g0 : (Kd.int .i64).K w a0 [c0] := by
      have e : Try.prog.cellsOf 3 = 1 := by kernel_rfl
      have h' : (Kd.int .i64).K w a0 ((List.drop 0 [c0, c1]).take (Try.prog.cellsOf 3)) := h0
      rw [e] at h'
      exact h'
    have g1 : (Kd.int .i64).K w a1 [c1] := by
      have e : Try.prog.cellsOf 3 = 1 := by kernel_rfl
      have h' : (Kd.int .i64).K w a1 ((List.drop 1 [c0, c1]).take (Try.prog.cellsOf 3)) := h1
      rw [e] at h'
      exact h'
    exact ⟨⟨a0, a1⟩, ⟨[c0], [c1], rfl, g0, g1⟩, ⟨o0, o1⟩⟩
def ok_39 (x : S39) : Prop := (True) ∧ (ok_36 x.f1) ∧ (x.f2.length ≤ 9223372036854775807 ∧ ∀ y0 ∈ x.f2, ok_36 y0)
theorem opn_39 : Opn.Opn Try.prog k39 39 ok_39 := by
  intro H enc w base spare held fuel cs x h
  obtain ⟨_, _, _, _, hl, _, _⟩ := DataW.trod_struct Try.underlying39 h
  rw [show Try.prog.cellsOf 39 = 4 from by kernel_rfl] at hl
  obtain ⟨a0, h0, o0⟩ := Opn.opn_field Try.underlying39 h 0 _ rfl (Opn.opn_bool Try.underlying4)
  obtain ⟨a1, h1, o1⟩ := Opn.opn_field Try.underlying39 h 1 _ rfl opn_36
  obtain ⟨a2, h2, o2⟩ := Opn.opn_field Try.underlying39 h 2 _ rfl (Opn.opn_sliceL Try.underlying37 (by kernel_rfl) opn_36)
  match cs, hl with
  | [c0, c1, c2, c3], _ =>
    have g0 : Kd.bool.K w a0 [c0] := by
      have e : Try.prog.cellsOf 4 = 1 := by kernel_rfl
      have h' : Kd.bool.K w a0 ((List.drop 0 [c0, c1, c2, c3]).take (Try.prog.cellsOf 4)) := h0
      rw [e] at h'
      exact h'
    have g1 : k36.K w a1 [c1, c2] := by
      have e : Try.prog.cellsOf 36 = 2 := by kernel_rfl
      have h' : k36.K w a1 ((List.drop 1 [c0, c1, c2, c3]).take (Try.prog.cellsOf 36)) := h1
      rw [e] at h'
      exact h'
    have g2 : (Kd.slice 36 k36).K w a2 [c3] := by
      have e : Try.prog.cellsOf 37 = 1 := by kernel_rfl
      have h' : (Kd.slice 36 k36).K w a2 ((List.drop 3 [c0, c1, c2, c3]).take (Try.prog.cellsOf 37)) := h2
      rw [e] at h'
      exact h'
    exact ⟨⟨a0, a1, a2⟩, ⟨[c0], [c1, c2, c3], rfl, g0, ⟨[c1, c2], [c3], rfl, g1, g2⟩⟩, ⟨o0, o1, o2⟩⟩
end Go.Proofs.Ytnebadlakmlkkaa.M
