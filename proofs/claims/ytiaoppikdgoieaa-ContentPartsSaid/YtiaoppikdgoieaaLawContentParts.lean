/- The law ContentParts: whatever the input, the call returns true; each argument reads behind the call as it read before. No condition. -/
import Derived.Test.YtiaoppikdgoieaaRows
import Derived.Test.YtiaoppikdgoieaaF4
import Derived.Test.YtiaoppikdgoieaaPureContentParts
import Derived.Test.YtiaoppikdgoieaaOpn
import Derived.Test.YtiaoppikdgoieaaRowHand
import Derived.Test.YtiaoppikdgoieaaOpnS
import Derived.WalkKit
import Derived.ProofKit
import Derived.OpenShut
import Derived.ShutString
import Derived.ChangeOld
import Derived.Below
import Derived.SizedLaws
namespace Go.Proofs.Ytiaoppikdgoieaa.contentParts
open Go.ChangeShapes Go.WideShapes Go.ChangeAt Go.RowKit
open Go.Proofs.YtiaoppikdgoieaaW.PrintWords Go.Proofs.YtiaoppikdgoieaaW.PrintLast Go.Proofs.YtiaoppikdgoieaaW.PrintMore Go.Proofs.Ytiaoppikdgoieaa.Hand
open Go.ChangeMaps (open_string shut_string)
set_option linter.unusedVariables false
theorem own : ownKnob Try.prog.godebug = none := by kernel_rfl
theorem laidOut : laidOutB Try.prog = true := by kernel_rfl
set_option maxRecDepth 100000 in
theorem lifted (os : Os) (started : os.Started) (H : Type) (enc : TypeId × Value → H) :
    ReturnsInHanded {} Try.checked os 4 .any (Rows.contentPartsSpec.pre6 enc Try.prog Try.f4 Rows.contentPartsRow.domain false) (Rows.contentPartsSpec.post enc Try.prog Try.f4 false true false false) := by
  refine returnsInHanded_of_change_sized (C := Try.checked) own started (by kernel_rfl) Try.func4
    (ChangeSpec.witness6 (enc := enc) (C := Try.checked) false ⟨#[], #[.agg #[.bool false, .int .i64 0, .int .i64 0, .slice none 0 0], .slice none 0 0, .slice none 0 0], []⟩ 8 (by kernel_rfl) (by kernel_rfl) (by kernel_rfl) (by kernel_rfl)) ?_
  intro W base args ds gs before hval0 hW hcnd hsz0 _
  have hval : ∀ (j : Nat) t v, Try.f4.params[j]? = some t → args[j]? = some v → Value.okWide Try.prog W .any base t v := hval0
  have hW' := hW
  obtain ⟨p, q, hA0, hV, rfl, hfz, hnd⟩ := hW
  have hA : DataW.TrodAll enc Try.prog W 0 (fun _ => true) true Try.f4.params.toList args.toList ds p := hA0
  rw [Try.params4] at hA hval
  obtain ⟨v0, vs0, d0, ds0, p0, q0, hargs, rfl, rfl, h0, r0⟩ := trodAll_cons hA
  obtain ⟨v1, vs1, d1, ds1, p1, q1, rfl, rfl, rfl, h1, r1⟩ := trodAll_cons r0
  obtain ⟨v2, vs2, d2, ds2, p2, q2, rfl, rfl, rfl, h2, r2⟩ := trodAll_cons r1
  obtain ⟨rfl, rfl, rfl⟩ := trodAll_nil r2
  obtain rfl : args = #[v0, v1, v2] := by cases args; simp_all
  obtain ⟨rfl, rfl⟩ := trodVars_none hV
  have k0 := h0
  have lt0 : ∀ x ∈ p0, x.block < W.heap.size := by obtain ⟨m, hm⟩ := k0; exact DataW.trod_lt m _ _ _ hm
  obtain ⟨cs0, rfl, hz0⟩ := okWide_struct Try.underlying38 (hval 0 38 v0 rfl rfl)
  obtain ⟨fuel0, hf0⟩ := h0
  obtain ⟨z0, hK0, ok0⟩ := M.opn_38 hf0
  have hO0 := M.k38_open hK0
  obtain ⟨A0_3, c0_3, hcs0, hl0_3, hC0_3⟩ := hO0
  obtain rfl := agg_cells hcs0
  have k1 := h1
  have lt1 : ∀ x ∈ p1, x.block < W.heap.size := by obtain ⟨m, hm⟩ := k1; exact DataW.trod_lt m _ _ _ hm
  obtain ⟨a1, len1, cap1, rfl⟩ := okWide_slice Try.underlying22 (hval 1 22 v1 rfl rfl)
  obtain ⟨fuel1, hf1⟩ := h1
  obtain ⟨z1, ⟨A1, c1, he1, hl1, hC1⟩, ok1⟩ := (Opn.opn_slice Try.underlying22 (by kernel_rfl) (Opn.opn_string Try.underlying9)) hf1
  obtain ⟨rfl, rfl, rfl⟩ := slice_cells he1
  have k2 := h2
  have lt2 : ∀ x ∈ p2, x.block < W.heap.size := by obtain ⟨m, hm⟩ := k2; exact DataW.trod_lt m _ _ _ hm
  obtain ⟨a2, len2, cap2, rfl⟩ := okWide_slice Try.underlying23 (hval 2 23 v2 rfl rfl)
  obtain ⟨fuel2, hf2⟩ := h2
  obtain ⟨z2, ⟨A2, c2, he2, hl2, hC2⟩, ok2⟩ := (Opn.opn_slice Try.underlying23 (by kernel_rfl) (Opn.opn_sliceL Try.underlying22 (by kernel_rfl) (Opn.opn_string Try.underlying9))) hf2
  obtain ⟨rfl, rfl, rfl⟩ := slice_cells he2
  clear hA0 hval0 hsz0
  obtain ⟨k, hk⟩ := Pure.ContentParts z0 ok0 z1 hC1.2.1 ok1 z2 hC2.2.1 ok2
  refine (M.sennitlaw06_ContentParts.calls k z0.f0 z0.f1.f0 z0.f1.f1 _ _ z0.f2 _ _ z1 _ _ z2 true W hC0_3 hl0_3 hC1 hl1 hC2 hl2 hk).mono fun e W' ⟨he, bel⟩ => ?_
  subst he
  exact ⟨_, rfl, _, _, _, [], _, [], hW', trodAll_mk1 (shut_bool Try.underlying4 _), (trodAll_cons_mk (Below.trod laidOut (by kernel_rfl) (of_decide_eq_true (by kernel_rfl)) k0 bel lt0) (trodAll_cons_mk (Below.trod laidOut (by kernel_rfl) (of_decide_eq_true (by kernel_rfl)) k1 bel lt1) (trodAll_cons_mk (Below.trod laidOut (by kernel_rfl) (of_decide_eq_true (by kernel_rfl)) k2 bel lt2) trodAll_mk0))), rfl, bel.frame _, fun h => by cases h⟩
theorem over : Rows.contentPartsRow.holds Try.pinned (OpenSpec.ofChange Rows.contentPartsSpec) :=
  OpenClaim.holds_of_wide 4 Try.f4 rfl rfl rfl rfl rfl rfl rfl ⟨rfl, rfl, rfl, rfl, rfl⟩ rfl rfl rfl rfl rfl (by kernel_rfl) Try.func4 (by kernel_rfl)
    (of_decide_eq_true (by kernel_rfl)) (by unfold Func.isWrapper; first | (rw [if_pos (by decide +kernel)]; kernel_rfl) | (rw [if_neg (by decide +kernel)]; exact ⟨rfl, rfl⟩))
    (fun os started H enc _ => lifted os started H enc)
theorem proved : Rows.ContentPartsSaid := over
end Go.Proofs.Ytiaoppikdgoieaa.contentParts
namespace Go.Proofs.Ytiaoppikdgoieaa
theorem contentParts_holds : Rows.ContentPartsSaid := contentParts.proved
#print axioms contentParts_holds
end Go.Proofs.Ytiaoppikdgoieaa
