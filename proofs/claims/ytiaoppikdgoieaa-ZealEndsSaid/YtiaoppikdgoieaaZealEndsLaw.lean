/- The law ZealEnds: whatever the input, the call returns true; each argument reads behind the call as it read before. No condition. -/
import Derived.Below
import Derived.ChangeOld
import Derived.OpenShut
import Derived.ProofKit
import Derived.ShutString
import Derived.SizedLaws
import Derived.Test.YtiaoppikdgoieaaRows
import Derived.WalkKit
import Derived.Test.YtiaoppikdgoieaaZealEndsQ12
namespace Go.Proofs.Ytiaoppikdgoieaa.zealEnds
open Go.ChangeShapes Go.WideShapes Go.ChangeAt Go.RowKit
open Go.Proofs.YtiaoppikdgoieaaW.PrintWords Go.Proofs.YtiaoppikdgoieaaW.PrintLast Go.Proofs.YtiaoppikdgoieaaW.PrintMore Go.Proofs.Ytiaoppikdgoieaa.Hand
open Go.ChangeMaps (open_string shut_string)
set_option linter.unusedVariables false
theorem own : ownKnob Try.prog.godebug = none := by kernel_rfl
theorem laidOut : laidOutB Try.prog = true := by kernel_rfl
set_option maxRecDepth 100000 in
theorem lifted (os : Os) (started : os.Started) (H : Type) (enc : TypeId × Value → H) :
    ReturnsInHanded {} Try.checked os 12 .any (Rows.zealEndsSpec.pre6 enc Try.prog Try.f12 Rows.zealEndsRow.domain false) (Rows.zealEndsSpec.post enc Try.prog Try.f12 false true false false) := by
  refine returnsInHanded_of_change_sized (C := Try.checked) own started (by kernel_rfl) Try.func12
    (ChangeSpec.witness6 (enc := enc) (C := Try.checked) false ⟨#[], #[.agg #[.bool false, .slice none 0 0, .slice none 0 0, .slice none 0 0]], []⟩ 8 (by kernel_rfl) (by kernel_rfl) (by kernel_rfl) (by kernel_rfl)) ?_
  intro W base args ds gs before hval0 hW hcnd hsz0 _
  have hval : ∀ (j : Nat) t v, Try.f12.params[j]? = some t → args[j]? = some v → Value.okWide Try.prog W .any base t v := hval0
  have hW' := hW
  obtain ⟨p, q, hA0, hV, rfl, hfz, hnd⟩ := hW
  have hA : DataW.TrodAll enc Try.prog W 0 (fun _ => true) true Try.f12.params.toList args.toList ds p := hA0
  rw [Try.params12] at hA hval
  obtain ⟨v0, vs0, d0, ds0, p0, q0, hargs, rfl, rfl, h0, r0⟩ := trodAll_cons hA
  obtain ⟨rfl, rfl, rfl⟩ := trodAll_nil r0
  obtain rfl : args = #[v0] := by cases args; simp_all
  obtain ⟨rfl, rfl⟩ := trodVars_none hV
  have k0 := h0
  have lt0 : ∀ x ∈ p0, x.block < W.heap.size := by obtain ⟨m, hm⟩ := k0; exact DataW.trod_lt m _ _ _ hm
  obtain ⟨cs0, rfl, hz0⟩ := okWide_struct Try.underlying27 (hval 0 27 v0 rfl rfl)
  obtain ⟨fuel0, hf0⟩ := h0
  obtain ⟨z0, hK0, ok0⟩ := M.opn_27 hf0
  have hO0 := M.k27_open hK0
  obtain ⟨A0_1, c0_1, A0_2, c0_2, A0_3, c0_3, hcs0, hl0_1, hC0_1, hl0_2, hC0_2, hl0_3, hC0_3⟩ := hO0
  obtain rfl := agg_cells hcs0
  clear hA0 hval0 hsz0
  obtain ⟨k, hk⟩ := Pure.ZealEnds z0 ok0
  refine (M.sennitlaw10_ZealEnds.calls k z0.f0 (fun k_ => k_ < W.heap.size) _ _ z0.f1 (fun k_ => k_ < W.heap.size) _ _ z0.f2 (fun k_ => k_ < W.heap.size) _ _ z0.f3 true W (Kd.V_mk hl0_1 (Kd.C_F Kd.heap_string hC0_1)) (Kd.V_mk hl0_2 (Kd.C_F Kd.heap_string hC0_2)) (Kd.V_mk hl0_3 (Kd.C_F (Kd.heap_slice 9 Kd.heap_string) hC0_3)) hk).mono fun e W' ⟨he, bel⟩ => ?_
  subst he
  exact ⟨_, rfl, _, _, _, [], _, [], hW', trodAll_mk1 (shut_bool Try.underlying4 _), (trodAll_cons_mk (Below.trod laidOut (by kernel_rfl) (of_decide_eq_true (by kernel_rfl)) k0 bel lt0) trodAll_mk0), rfl, bel.frame _, fun h => by cases h⟩
theorem over : Rows.zealEndsRow.holds Try.pinned (OpenSpec.ofChange Rows.zealEndsSpec) :=
  OpenClaim.holds_of_wide 12 Try.f12 rfl rfl rfl rfl rfl rfl rfl ⟨rfl, rfl, rfl, rfl, rfl⟩ rfl rfl rfl rfl rfl (by kernel_rfl) Try.func12 (by kernel_rfl)
    (of_decide_eq_true (by kernel_rfl)) (by unfold Func.isWrapper; first | (rw [if_pos (by decide +kernel)]; kernel_rfl) | (rw [if_neg (by decide +kernel)]; exact ⟨rfl, rfl⟩))
    (fun os started H enc _ => lifted os started H enc)
theorem proved : Rows.ZealEndsSaid := over
end Go.Proofs.Ytiaoppikdgoieaa.zealEnds
namespace Go.Proofs.Ytiaoppikdgoieaa
theorem zealEnds_holds : Rows.ZealEndsSaid := zealEnds.proved
#print axioms zealEnds_holds
end Go.Proofs.Ytiaoppikdgoieaa
