/- The law ZealTurn: whatever the input, the call returns true; each argument reads behind the call as it read before. No condition. -/
import Derived.Below
import Derived.ChangeOld
import Derived.OpenShut
import Derived.ProofKit
import Derived.ShutString
import Derived.SizedLaws
import Derived.Test.YtiaoppikdgoieaaRows
import Derived.WalkKit
import Derived.Test.YtiaoppikdgoieaaZealTurnQ13
namespace Go.Proofs.Ytiaoppikdgoieaa.zealTurn
open Go.ChangeShapes Go.WideShapes Go.ChangeAt Go.RowKit
open Go.Proofs.YtiaoppikdgoieaaW.PrintWords Go.Proofs.YtiaoppikdgoieaaW.PrintLast Go.Proofs.YtiaoppikdgoieaaW.PrintMore Go.Proofs.Ytiaoppikdgoieaa.Hand
open Go.ChangeMaps (open_string shut_string)
set_option linter.unusedVariables false
theorem own : ownKnob Try.prog.godebug = none := by kernel_rfl
theorem laidOut : laidOutB Try.prog = true := by kernel_rfl
set_option maxRecDepth 100000 in
theorem lifted (os : Os) (started : os.Started) (H : Type) (enc : TypeId × Value → H) :
    ReturnsInHanded {} Try.checked os 13 .any (Rows.zealTurnSpec.pre6 enc Try.prog Try.f13 Rows.zealTurnRow.domain false) (Rows.zealTurnSpec.post enc Try.prog Try.f13 false true false false) := by
  refine returnsInHanded_of_change_sized (C := Try.checked) own started (by kernel_rfl) Try.func13
    (ChangeSpec.witness6 (enc := enc) (C := Try.checked) false ⟨#[], #[.agg #[.bool false, .slice none 0 0, .slice none 0 0, .slice none 0 0], .int .u8 0], []⟩ 8 (by kernel_rfl) (by kernel_rfl) (by kernel_rfl) (by kernel_rfl)) ?_
  intro W base args ds gs before hval0 hW hcnd hsz0 _
  have hval : ∀ (j : Nat) t v, Try.f13.params[j]? = some t → args[j]? = some v → Value.okWide Try.prog W .any base t v := hval0
  have hW' := hW
  obtain ⟨p, q, hA0, hV, rfl, hfz, hnd⟩ := hW
  have hA : DataW.TrodAll enc Try.prog W 0 (fun _ => true) true Try.f13.params.toList args.toList ds p := hA0
  rw [Try.params13] at hA hval
  obtain ⟨v0, vs0, d0, ds0, p0, q0, hargs, rfl, rfl, h0, r0⟩ := trodAll_cons hA
  obtain ⟨v1, vs1, d1, ds1, p1, q1, rfl, rfl, rfl, h1, r1⟩ := trodAll_cons r0
  obtain ⟨rfl, rfl, rfl⟩ := trodAll_nil r1
  obtain rfl : args = #[v0, v1] := by cases args; simp_all
  obtain ⟨rfl, rfl⟩ := trodVars_none hV
  have k0 := h0
  have lt0 : ∀ x ∈ p0, x.block < W.heap.size := by obtain ⟨m, hm⟩ := k0; exact DataW.trod_lt m _ _ _ hm
  obtain ⟨cs0, rfl, hz0⟩ := okWide_struct Try.underlying27 (hval 0 27 v0 rfl rfl)
  obtain ⟨fuel0, hf0⟩ := h0
  obtain ⟨z0, hK0, ok0⟩ := M.opn_27 hf0
  have hO0 := M.k27_open hK0
  obtain ⟨A0_1, c0_1, A0_2, c0_2, A0_3, c0_3, hcs0, hl0_1, hC0_1, hl0_2, hC0_2, hl0_3, hC0_3⟩ := hO0
  obtain rfl := agg_cells hcs0
  have k1 := h1
  have lt1 : ∀ x ∈ p1, x.block < W.heap.size := by obtain ⟨m, hm⟩ := k1; exact DataW.trod_lt m _ _ _ hm
  obtain ⟨z1, rfl⟩ := okWide_int Try.underlying5 (hval 1 5 v1 rfl rfl)
  obtain ⟨fuel1, hf1⟩ := h1
  obtain ⟨y1, e1, ok1⟩ := (Opn.opn_int .u8 Try.underlying5) hf1
  rw [int_cells e1] at ok1
  clear hA0 hval0 hsz0
  obtain ⟨k, hk⟩ := Pure.ZealTurn z0 ok0 z1 ok1
  refine (M.sennitlaw10_ZealTurn.calls k z0.f0 (fun k_ => k_ < W.heap.size) _ _ z0.f1 (fun k_ => k_ < W.heap.size) _ _ z0.f2 (fun k_ => k_ < W.heap.size) _ _ z0.f3 z1 true W (Kd.V_mk hl0_1 (Kd.C_F Kd.heap_string hC0_1)) (Kd.V_mk hl0_2 (Kd.C_F Kd.heap_string hC0_2)) (Kd.V_mk hl0_3 (Kd.C_F (Kd.heap_slice 9 Kd.heap_string) hC0_3)) hk).mono fun e W' ⟨he, bel⟩ => ?_
  subst he
  exact ⟨_, rfl, _, _, _, [], _, [], hW', trodAll_mk1 (shut_bool Try.underlying4 _), (trodAll_cons_mk (Below.trod laidOut (by kernel_rfl) (of_decide_eq_true (by kernel_rfl)) k0 bel lt0) (trodAll_cons_mk (Below.trod laidOut (by kernel_rfl) (of_decide_eq_true (by kernel_rfl)) k1 bel lt1) trodAll_mk0)), rfl, bel.frame _, fun h => by cases h⟩
theorem over : Rows.zealTurnRow.holds Try.pinned (OpenSpec.ofChange Rows.zealTurnSpec) :=
  OpenClaim.holds_of_wide 13 Try.f13 rfl rfl rfl rfl rfl rfl rfl ⟨rfl, rfl, rfl, rfl, rfl⟩ rfl rfl rfl rfl rfl (by kernel_rfl) Try.func13 (by kernel_rfl)
    (of_decide_eq_true (by kernel_rfl)) (by unfold Func.isWrapper; first | (rw [if_pos (by decide +kernel)]; kernel_rfl) | (rw [if_neg (by decide +kernel)]; exact ⟨rfl, rfl⟩))
    (fun os started H enc _ => lifted os started H enc)
theorem proved : Rows.ZealTurnSaid := over
end Go.Proofs.Ytiaoppikdgoieaa.zealTurn
namespace Go.Proofs.Ytiaoppikdgoieaa
theorem zealTurn_holds : Rows.ZealTurnSaid := zealTurn.proved
#print axioms zealTurn_holds
end Go.Proofs.Ytiaoppikdgoieaa
