/- The law FlagsResult: whatever the input, the call returns true; each argument reads behind the call as it read before. No condition. -/
import Derived.Test.YtbhfenpccccloaaRows
import Derived.Test.YtbhfenpccccloaaF15
import Derived.Test.YtbhfenpccccloaaPureFlagsResult
import Derived.Test.YtbhfenpccccloaaOpn
import Derived.Test.YtbhfenpccccloaaRowHand
import Derived.WalkKit
import Derived.Laws.IdiomArrays
import Derived.ProofKit
import Derived.OpenShut
import Derived.ShutString
import Derived.ChangeOld
import Derived.Below
import Derived.SizedLaws
namespace Go.Proofs.Ytbhfenpccccloaa.flagsResult
open Go.ChangeShapes Go.WideShapes Go.ChangeAt Go.RowKit
open Go.Proofs.YtbhfenpccccloaaW.PrintWords Go.Proofs.YtbhfenpccccloaaW.PrintLast Go.Proofs.YtbhfenpccccloaaW.PrintMore Go.Proofs.Ytbhfenpccccloaa.Hand
open Go.ChangeMaps (open_string shut_string)
set_option linter.unusedVariables false
theorem three_cells (cs : Array Value) (h : cs.size = 3) : ∃ x0 x1 x2 : Value, cs = #[x0, x1, x2] := by
  match cs, h with
  | ⟨[x0, x1, x2]⟩, _ => exact ⟨x0, x1, x2, rfl⟩
theorem own : ownKnob Try.prog.godebug = none := by kernel_rfl
theorem laidOut : laidOutB Try.prog = true := by kernel_rfl
set_option maxRecDepth 100000 in
theorem lifted (os : Os) (started : os.Started) (H : Type) (enc : TypeId × Value → H) :
    ReturnsInHanded {} Try.checked os 15 .any (Rows.flagsResultSpec.pre6 enc Try.prog Try.f15 Rows.flagsResultRow.domain false) (Rows.flagsResultSpec.post enc Try.prog Try.f15 false true false false) := by
  refine returnsInHanded_of_change_sized (C := Try.checked) own started (by kernel_rfl) Try.func15
    (ChangeSpec.witness6 (enc := enc) (C := Try.checked) false ⟨#[], #[.int .u8 0, .agg #[.slice none 0 0, .slice none 0 0, .slice none 0 0]], []⟩ 8 (by kernel_rfl) (by kernel_rfl) (by kernel_rfl) (by kernel_rfl)) ?_
  intro W base args ds gs before hval0 hW hcnd hsz0 _
  have hval : ∀ (j : Nat) t v, Try.f15.params[j]? = some t → args[j]? = some v → Value.okWide Try.prog W .any base t v := hval0
  have hW' := hW
  obtain ⟨p, q, hA0, hV, rfl, hfz, hnd⟩ := hW
  have hA : DataW.TrodAll enc Try.prog W 0 (fun _ => true) true Try.f15.params.toList args.toList ds p := hA0
  rw [Try.params15] at hA hval
  obtain ⟨v0, vs0, d0, ds0, p0, q0, hargs, rfl, rfl, h0, r0⟩ := trodAll_cons hA
  obtain ⟨v1, vs1, d1, ds1, p1, q1, rfl, rfl, rfl, h1, r1⟩ := trodAll_cons r0
  obtain ⟨rfl, rfl, rfl⟩ := trodAll_nil r1
  obtain rfl : args = #[v0, v1] := by cases args; simp_all
  obtain ⟨rfl, rfl⟩ := trodVars_none hV
  have k0 := h0
  have lt0 : ∀ x ∈ p0, x.block < W.heap.size := by obtain ⟨m, hm⟩ := k0; exact DataW.trod_lt m _ _ _ hm
  obtain ⟨z0, rfl⟩ := okWide_int Try.underlying5 (hval 0 5 v0 rfl rfl)
  obtain ⟨fuel0, hf0⟩ := h0
  obtain ⟨y0, e0, ok0⟩ := (Opn.opn_int .u8 Try.underlying5) hf0
  rw [int_cells e0] at ok0
  have k1 := h1
  have lt1 : ∀ x ∈ p1, x.block < W.heap.size := by obtain ⟨m, hm⟩ := k1; exact DataW.trod_lt m _ _ _ hm
  have hv1 := hval 1 52 v1 rfl rfl
  simp only [Value.okWide, Try.underlying52] at hv1
  obtain ⟨cs1, rfl, hz1, _⟩ := hv1
  obtain ⟨fuel1, hf1⟩ := h1
  have hz : cs1.size = 3 := hz1.trans (by kernel_rfl)
  obtain ⟨x0, x1, x2, hcs⟩ := three_cells cs1 hz
  subst hcs
  obtain ⟨y0, y1, y2, n, _, t0, t1, t2⟩ := trod_array3 Try.underlying52 (by kernel_rfl) hf1
  obtain ⟨l0, ⟨A0, c0, he0, hl0, hC0⟩, okl0⟩ := (Opn.opn_slice Try.underlying22 (by kernel_rfl) (Opn.opn_string Try.underlying9)) t0
  obtain ⟨l1, ⟨A1, c1, he1, hl1, hC1⟩, okl1⟩ := (Opn.opn_slice Try.underlying22 (by kernel_rfl) (Opn.opn_string Try.underlying9)) t1
  obtain ⟨l2, ⟨A2, c2, he2, hl2, hC2⟩, okl2⟩ := (Opn.opn_slice Try.underlying22 (by kernel_rfl) (Opn.opn_string Try.underlying9)) t2
  cases he0
  cases he1
  cases he2
  clear hA0 hval0 hsz0
  refine (Pure.FlagsResult z0 ok0 A0 c0 l0 A1 c1 l1 A2 c2 l2 W hC0 hl0 hC1 hl1 hC2 hl2).mono fun e W' ⟨he, bel⟩ => ?_
  subst he
  exact ⟨_, rfl, _, _, _, [], _, [], hW', trodAll_mk1 (shut_bool Try.underlying4 _), (trodAll_cons_mk (Below.trod laidOut (by kernel_rfl) (of_decide_eq_true (by kernel_rfl)) k0 bel lt0) (trodAll_cons_mk (Below.trod laidOut (by kernel_rfl) (of_decide_eq_true (by kernel_rfl)) k1 bel lt1) trodAll_mk0)), rfl, bel.frame _, fun h => by cases h⟩
theorem over : Rows.flagsResultRow.holds Try.pinned (OpenSpec.ofChange Rows.flagsResultSpec) :=
  OpenClaim.holds_of_wide 15 Try.f15 rfl rfl rfl rfl rfl rfl rfl ⟨rfl, rfl, rfl, rfl, rfl⟩ rfl rfl rfl rfl rfl (by kernel_rfl) Try.func15 (by kernel_rfl)
    (of_decide_eq_true (by kernel_rfl)) (by unfold Func.isWrapper; first | (rw [if_pos (by decide +kernel)]; kernel_rfl) | (rw [if_neg (by decide +kernel)]; exact ⟨rfl, rfl⟩))
    (fun os started H enc _ => lifted os started H enc)
theorem proved : Rows.FlagsResultSaid := over
end Go.Proofs.Ytbhfenpccccloaa.flagsResult
namespace Go.Proofs.Ytbhfenpccccloaa
theorem flagsResult_holds : Rows.FlagsResultSaid := flagsResult.proved
#print axioms flagsResult_holds
end Go.Proofs.Ytbhfenpccccloaa
