/- What the cells of the struct parameters read as. -/
import Derived.Test.YtnebadlakmlkkaaOpn
import Derived.Test.YtnebadlakmlkkaaF0
namespace Go.Proofs.Ytnebadlakmlkkaa.M
open Go.RowKit Go.Proofs.YtnebadlakmlkkaaW.PrintWords Go.Proofs.YtnebadlakmlkkaaW.PrintLast Go.Proofs.YtnebadlakmlkkaaW.PrintMore
set_option linter.unusedVariables false
set_option linter.unusedSimpArgs false
def ok_36 (x : S36) : Prop := ((Lit.int .i64 x.f0).wf = true) ∧ ((Lit.int .i64 x.f1).wf = true)
theorem opn_36 : Opn.Opn Try.prog k36 36 ok_36 := by
  intro H enc w base spare held fuel cs x h
  obtain ⟨_, _, _, _, hl, _, _⟩ := DataW.trod_struct Try.underlying36 h
  rw [show Try.prog.cellsOf 36 = 2 from by kernel_rfl] at hl
  obtain ⟨a0, h0, o0⟩ := Opn.opn_field Try.underlying36 h 0 _ rfl (Opn.opn_int .i64 Try.underlying3)
  obtain ⟨a1, h1, o1⟩ := Opn.opn_field Try.underlying36 h 1 _ rfl (Opn.opn_int .i64 Try.underlying3)
  match cs, hl with
  | [c0, c1], _ =>
    have g0 : (Kd.int .i64).K w a0 [c0] := by
      have e : Try.prog.cellsOf 3 = 1 := by kernel_rfl
      have h' : (Kd.int .i64).K w a0 ((List.drop 0 [c0, c1]).take (Try.prog.cellsOf 3)) := h0
      rw [e] at h'
      exact h'
    have g1 : (Kd.int .i64).K w a1 [c1] := by
      have e : Try.prog.cellsOf 3 = 1 := by kernel_rfl
      have h' : (Kd.int .i64).K w a1 ((List.drop 1 [c0, c1]).take (Try.prog.cellsOf 3)) := h1
      rw [e] at h'
      exact h'
    exact ⟨⟨a0, a1⟩, ⟨[c0], [c1], rfl, g0, g1⟩, ⟨o0, o1⟩⟩
def ok_60 (x : S60) : Prop := (ok_36 x.f0) ∧ (ok_36 x.f1)
theorem opn_60 : Opn.Opn Try.prog k60 60 ok_60 := by
  intro H enc w base spare held fuel cs x h
  obtain ⟨_, _, _, _, hl, _, _⟩ := DataW.trod_struct Try.underlying60 h
  rw [show Try.prog.cellsOf 60 = 4 from by kernel_rfl] at hl
  obtain ⟨a0, h0, o0⟩ := Opn.opn_field Try.underlying60 h 0 _ rfl opn_36
  obtain ⟨a1, h1, o1⟩ := Opn.opn_field Try.underlying60 h 1 _ rfl opn_36
  match cs, hl with
  | [c0, c1, c2, c3], _ =>
    have g0 : k36.K w a0 [c0, c1] := by
      have e : Try.prog.cellsOf 36 = 2 := by kernel_rfl
      have h' : k36.K w a0 ((List.drop 0 [c0, c1, c2, c3]).take (Try.prog.cellsOf 36)) := h0
      rw [e] at h'
      exact h'
    have g1 : k36.K w a1 [c2, c3] := by
      have e : Try.prog.cellsOf 36 = 2 := by kernel_rfl
      have h' : k36.K w a1 ((List.drop 2 [c0, c1, c2, c3]).take (Try.prog.cellsOf 36)) := h1
      rw [e] at h'
      exact h'
    exact ⟨⟨a0, a1⟩, ⟨[c0, c1], [c2, c3], rfl, g0, g1⟩, ⟨o0, o1⟩⟩
end Go.Proofs.Ytnebadlakmlkkaa.M
