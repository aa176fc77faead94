/- Texts of the claim ZealTurn, put together (part 12): What the cells of the struct parameters read as. -/
import Derived.ArgAppend
import Derived.Below
import Derived.BigQuiet
import Derived.ChangeArms
import Derived.Deep.AppendLies
import Derived.Deep.CutBlock
import Derived.Deep.DeepCutAuto
import Derived.Deep.Draws
import Derived.Deep.LoopGhost
import Derived.Deep.OwnRows
import Derived.Deep.QuietTactic
import Derived.Deep.RegionHeld3
import Derived.Deep.Slices
import Derived.KernelRfl
import Derived.Laws.BitsLemmas
import Derived.Laws.BytesArg
import Derived.Laws.IdiomCopy
import Derived.Laws.MakeOwn
import Derived.Laws.OwnMore
import Derived.Laws.Rows
import Derived.Laws.Slices
import Derived.Laws.StructEq
import Derived.Lib.AppendStr
import Derived.Lib.ConvBytes
import Derived.Maps.AppendAt
import Derived.OpenShut
import Derived.OrdersHeld
import Derived.OwnWalk
import Derived.RowKit
import Derived.RowKit3
import Derived.Tactics
import Derived.Test.YtiaoppikdgoieaaProg
import Derived.WalkKit
import Derived.WideLaws
import Derived.Test.YtiaoppikdgoieaaZealTurnQ11
namespace Go.Proofs.Ytiaoppikdgoieaa.M
open Go.RowKit Go.Proofs.YtiaoppikdgoieaaW.PrintWords Go.Proofs.YtiaoppikdgoieaaW.PrintLast Go.Proofs.YtiaoppikdgoieaaW.PrintMore
set_option linter.unusedVariables false
set_option linter.unusedSimpArgs false
def ok_35 (x : S35) : Prop := ((Lit.int .i64 x.f0).wf = true) ∧ ((Lit.int .i64 x.f1).wf = true)
theorem opn_35 : Opn.Opn Try.prog k35 35 ok_35 := by
  intro H enc w base spare held fuel cs x h
  obtain ⟨_, _, _, _, hl, _, _⟩ := DataW.trod_struct Try.underlying35 h
  rw [show Try.prog.cellsOf 35 = 2 from by kernel_rfl] at hl
  obtain ⟨a0, h0, o0⟩ := Opn.opn_field Try.underlying35 h 0 _ rfl (Opn.opn_int .i64 Try.underlying3)
  obtain ⟨a1, h1, o1⟩ := Opn.opn_field Try.underlying35 h 1 _ rfl (Opn.opn_int .i64 Try.underlying3)
  match cs, hl with
  | [c0, c1], _ =>
    have g0 : (Kd.int .i64).K w a0 [c0] := by
      have e : Try.prog.cellsOf 3 = 1 := by kernel_rfl
      have h' : (Kd.int .i64).K w a0 ((List.drop 0 [c0, c1]).take (Try.prog.cellsOf 3)) := h0
      rw [e] at h'
      exact h'
    have g1 : (Kd.int .i64).K w a1 [c1] := by
      have e : Try.prog.cellsOf 3 = 1 := by kernel_rfl
      have h' : (Kd.int .i64).K w a1 ((List.drop 1 [c0, c1]).take (Try.prog.cellsOf 3)) := h1
      rw [e] at h'
      exact h'
    exact ⟨⟨a0, a1⟩, ⟨[c0], [c1], rfl, g0, g1⟩, ⟨o0, o1⟩⟩
def ok_38 (x : S38) : Prop := (True) ∧ (ok_35 x.f1) ∧ (x.f2.length ≤ 9223372036854775807 ∧ ∀ y0 ∈ x.f2, ok_35 y0)
theorem opn_38 : Opn.Opn Try.prog k38 38 ok_38 := by
  intro H enc w base spare held fuel cs x h
  obtain ⟨_, _, _, _, hl, _, _⟩ := DataW.trod_struct Try.underlying38 h
  rw [show Try.prog.cellsOf 38 = 4 from by kernel_rfl] at hl
  obtain ⟨a0, h0, o0⟩ := Opn.opn_field Try.underlying38 h 0 _ rfl (Opn.opn_bool Try.underlying4)
  obtain ⟨a1, h1, o1⟩ := Opn.opn_field Try.underlying38 h 1 _ rfl opn_35
  obtain ⟨a2, h2, o2⟩ := Opn.opn_field Try.underlying38 h 2 _ rfl (Opn.opn_sliceL Try.underlying36 (by kernel_rfl) opn_35)
  match cs, hl with
  | [c0, c1, c2, c3], _ =>
    have g0 : Kd.bool.K w a0 [c0] := by
      have e : Try.prog.cellsOf 4 = 1 := by kernel_rfl
      have h' : Kd.bool.K w a0 ((List.drop 0 [c0, c1, c2, c3]).take (Try.prog.cellsOf 4)) := h0
      rw [e] at h'
      exact h'
    have g1 : k35.K w a1 [c1, c2] := by
      have e : Try.prog.cellsOf 35 = 2 := by kernel_rfl
      have h' : k35.K w a1 ((List.drop 1 [c0, c1, c2, c3]).take (Try.prog.cellsOf 35)) := h1
      rw [e] at h'
      exact h'
    have g2 : (Kd.slice 35 k35).K w a2 [c3] := by
      have e : Try.prog.cellsOf 36 = 1 := by kernel_rfl
      have h' : (Kd.slice 35 k35).K w a2 ((List.drop 3 [c0, c1, c2, c3]).take (Try.prog.cellsOf 36)) := h2
      rw [e] at h'
      exact h'
    exact ⟨⟨a0, a1, a2⟩, ⟨[c0], [c1, c2, c3], rfl, g0, ⟨[c1, c2], [c3], rfl, g1, g2⟩⟩, ⟨o0, o1, o2⟩⟩
def ok_27 (x : S27) : Prop := (True) ∧ (x.f1.length ≤ 9223372036854775807 ∧ ∀ y0 ∈ x.f1, y0.size ≤ 9223372036854775807) ∧ (x.f2.length ≤ 9223372036854775807 ∧ ∀ y0 ∈ x.f2, y0.size ≤ 9223372036854775807) ∧ (x.f3.length ≤ 9223372036854775807 ∧ ∀ y0 ∈ x.f3, y0.length ≤ 9223372036854775807 ∧ ∀ y1 ∈ y0, y1.size ≤ 9223372036854775807)
theorem opn_27 : Opn.Opn Try.prog k27 27 ok_27 := by
  intro H enc w base spare held fuel cs x h
  obtain ⟨_, _, _, _, hl, _, _⟩ := DataW.trod_struct Try.underlying27 h
  rw [show Try.prog.cellsOf 27 = 4 from by kernel_rfl] at hl
  obtain ⟨a0, h0, o0⟩ := Opn.opn_field Try.underlying27 h 0 _ rfl (Opn.opn_bool Try.underlying4)
  obtain ⟨a1, h1, o1⟩ := Opn.opn_field Try.underlying27 h 1 _ rfl (Opn.opn_sliceL Try.underlying22 (by kernel_rfl) (Opn.opn_string Try.underlying9))
  obtain ⟨a2, h2, o2⟩ := Opn.opn_field Try.underlying27 h 2 _ rfl (Opn.opn_sliceL Try.underlying22 (by kernel_rfl) (Opn.opn_string Try.underlying9))
  obtain ⟨a3, h3, o3⟩ := Opn.opn_field Try.underlying27 h 3 _ rfl (Opn.opn_sliceL Try.underlying23 (by kernel_rfl) (Opn.opn_sliceL Try.underlying22 (by kernel_rfl) (Opn.opn_string Try.underlying9)))
  match cs, hl with
  | [c0, c1, c2, c3], _ =>
    have g0 : Kd.bool.K w a0 [c0] := by
      have e : Try.prog.cellsOf 4 = 1 := by kernel_rfl
      have h' : Kd.bool.K w a0 ((List.drop 0 [c0, c1, c2, c3]).take (Try.prog.cellsOf 4)) := h0
      rw [e] at h'
      exact h'
    have g1 : (Kd.slice 9 Kd.string).K w a1 [c1] := by
      have e : Try.prog.cellsOf 22 = 1 := by kernel_rfl
      have h' : (Kd.slice 9 Kd.string).K w a1 ((List.drop 1 [c0, c1, c2, c3]).take (Try.prog.cellsOf 22)) := h1
      rw [e] at h'
      exact h'
    have g2 : (Kd.slice 9 Kd.string).K w a2 [c2] := by
      have e : Try.prog.cellsOf 22 = 1 := by kernel_rfl
      have h' : (Kd.slice 9 Kd.string).K w a2 ((List.drop 2 [c0, c1, c2, c3]).take (Try.prog.cellsOf 22)) := h2
      rw [e] at h'
      exact h'
    have g3 : (Kd.slice 22 (Kd.slice 9 Kd.string)).K w a3 [c3] := by
      have e : Try.prog.cellsOf 23 = 1 := by kernel_rfl
      have h' : (Kd.slice 22 (Kd.slice 9 Kd.string)).K w a3 ((List.drop 3 [c0, c1, c2, c3]).take (Try.prog.cellsOf 23)) := h3
      rw [e] at h'
      exact h'
    exact ⟨⟨a0, a1, a2, a3⟩, ⟨[c0], [c1, c2, c3], rfl, g0, ⟨[c1], [c2, c3], rfl, g1, ⟨[c2], [c3], rfl, g2, g3⟩⟩⟩, ⟨o0, o1, o2, o3⟩⟩
end Go.Proofs.Ytiaoppikdgoieaa.M
