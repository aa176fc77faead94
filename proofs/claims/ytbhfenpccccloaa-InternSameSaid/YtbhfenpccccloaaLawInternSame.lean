/- The law InternSame: whatever the input, the call returns true; each argument reads behind the call as it read before. No condition. -/
import Derived.Test.YtbhfenpccccloaaRows
import Derived.Test.YtbhfenpccccloaaF10
import Derived.Test.YtbhfenpccccloaaPureInternSame
import Derived.Test.YtbhfenpccccloaaOpn
import Derived.Test.YtbhfenpccccloaaRowHand
import Derived.WalkKit
import Derived.ProofKit
import Derived.OpenShut
import Derived.ShutString
import Derived.ChangeOld
import Derived.Below
import Derived.SizedLaws
namespace Go.Proofs.Ytbhfenpccccloaa.internSame
open Go.ChangeShapes Go.WideShapes Go.ChangeAt Go.RowKit
open Go.Proofs.YtbhfenpccccloaaW.PrintWords Go.Proofs.YtbhfenpccccloaaW.PrintLast Go.Proofs.YtbhfenpccccloaaW.PrintMore Go.Proofs.Ytbhfenpccccloaa.Hand
open Go.ChangeMaps (open_string shut_string)
set_option linter.unusedVariables false
theorem two_cells (cs : Array Value) (h : cs.size = 2) : ∃ x0 x1 : Value, cs = #[x0, x1] := by
  match cs, h with
  | ⟨[x0, x1]⟩, _ => exact ⟨x0, x1, rfl⟩
theorem trod_array2 {H : Type} {enc : TypeId × Value → H} {P : Program} {w : World} {base : Nat} {spare : Nat → Bool} {held : Bool} {t e : TypeId} {fuel : Nat} {c0 c1 : Value} {x : DataW H × List MemPlace} (ht : P.underlying t = some (.array 2 e)) (hce : P.cellsOf e = 1)
    (h : DataW.trod enc P w base spare held fuel t [c0, c1] = some x) :
    ∃ y0 y1 n, x = (.agg [y0.1, y1.1], y0.2 ++ y1.2) ∧ DataW.trod enc P w base spare held n e [c0] = some y0 ∧ DataW.trod enc P w base spare held n e [c1] = some y1 := by
  cases fuel with
  | zero => simp [DataW.trod] at h
  | succ n =>
    unfold DataW.trod at h
    rw [ht] at h
    have r2 : List.range 2 = [0, 1] := rfl
    simp [r2, hce] at h
    obtain ⟨_, h⟩ := h
    cases h0 : DataW.trod enc P w base spare held n e [c0] with
    | none => simp [h0] at h
    | some y0 =>
      cases h1 : DataW.trod enc P w base spare held n e [c1] with
      | none => simp [h0, h1] at h
      | some y1 =>
        simp [h0, h1] at h
        exact ⟨y0, y1, n, h.symm, h0, h1⟩
theorem own : ownKnob Try.prog.godebug = none := by kernel_rfl
theorem laidOut : laidOutB Try.prog = true := by kernel_rfl
set_option maxRecDepth 100000 in
theorem lifted (os : Os) (started : os.Started) (H : Type) (enc : TypeId × Value → H) :
    ReturnsInHanded {} Try.checked os 10 .any (Rows.internSameSpec.pre6 enc Try.prog Try.f10 Rows.internSameRow.domain false) (Rows.internSameSpec.post enc Try.prog Try.f10 false true false false) := by
  refine returnsInHanded_of_change_sized (C := Try.checked) own started (by kernel_rfl) Try.func10
    (ChangeSpec.witness6 (enc := enc) (C := Try.checked) false ⟨#[], #[.slice none 0 0, .agg #[.int .u8 0, .int .u8 0]], []⟩ 8 (by kernel_rfl) (by kernel_rfl) (by kernel_rfl) (by kernel_rfl)) ?_
  intro W base args ds gs before hval0 hW hcnd hsz0 _
  have hval : ∀ (j : Nat) t v, Try.f10.params[j]? = some t → args[j]? = some v → Value.okWide Try.prog W .any base t v := hval0
  have hW' := hW
  obtain ⟨p, q, hA0, hV, rfl, hfz, hnd⟩ := hW
  have hA : DataW.TrodAll enc Try.prog W 0 (fun _ => true) true Try.f10.params.toList args.toList ds p := hA0
  rw [Try.params10] at hA hval
  obtain ⟨v0, vs0, d0, ds0, p0, q0, hargs, rfl, rfl, h0, r0⟩ := trodAll_cons hA
  obtain ⟨v1, vs1, d1, ds1, p1, q1, rfl, rfl, rfl, h1, r1⟩ := trodAll_cons r0
  obtain ⟨rfl, rfl, rfl⟩ := trodAll_nil r1
  obtain rfl : args = #[v0, v1] := by cases args; simp_all
  obtain ⟨rfl, rfl⟩ := trodVars_none hV
  have k0 := h0
  have lt0 : ∀ x ∈ p0, x.block < W.heap.size := by obtain ⟨m, hm⟩ := k0; exact DataW.trod_lt m _ _ _ hm
  obtain ⟨a0, len0, cap0, rfl⟩ := okWide_slice Try.underlying38 (hval 0 38 v0 rfl rfl)
  obtain ⟨fuel0, hf0⟩ := h0
  obtain ⟨z0, ⟨A0, c0, he0, hl0, hC0⟩, ok0⟩ := (Opn.opn_slice Try.underlying38 (by kernel_rfl) (Opn.opn_sliceL Try.underlying22 (by kernel_rfl) (Opn.opn_string Try.underlying9))) hf0
  obtain ⟨rfl, rfl, rfl⟩ := slice_cells he0
  have k1 := h1
  have lt1 : ∀ x ∈ p1, x.block < W.heap.size := by obtain ⟨m, hm⟩ := k1; exact DataW.trod_lt m _ _ _ hm
  have hv1 := hval 1 45 v1 rfl rfl
  simp only [Value.okWide, Try.underlying45] at hv1
  obtain ⟨cs1, rfl, hz1, _⟩ := hv1
  obtain ⟨fuel1, hf1⟩ := h1
  have hz : cs1.size = 2 := hz1.trans (by kernel_rfl)
  obtain ⟨x0, x1, hcs⟩ := two_cells cs1 hz
  subst hcs
  obtain ⟨y0, y1, n, _, t0, t1⟩ := trod_array2 Try.underlying45 (by kernel_rfl) hf1
  obtain ⟨a1, ea, oka⟩ := (Opn.opn_int .u8 Try.underlying5) t0
  obtain ⟨b1, eb, okb⟩ := (Opn.opn_int .u8 Try.underlying5) t1
  cases ea
  cases eb
  clear hA0 hval0 hsz0
  obtain ⟨k, hk⟩ := Pure.InternSame z0 hC0.2.1 ok0 a1 b1 oka okb
  refine (M.sennitlaw02_InternSame.calls k _ _ z0 a1 b1 true W hC0 hl0 hk).mono fun e W' ⟨he, bel⟩ => ?_
  subst he
  exact ⟨_, rfl, _, _, _, [], _, [], hW', trodAll_mk1 (shut_bool Try.underlying4 _), (trodAll_cons_mk (Below.trod laidOut (by kernel_rfl) (of_decide_eq_true (by kernel_rfl)) k0 bel lt0) (trodAll_cons_mk (Below.trod laidOut (by kernel_rfl) (of_decide_eq_true (by kernel_rfl)) k1 bel lt1) trodAll_mk0)), rfl, bel.frame _, fun h => by cases h⟩
theorem over : Rows.internSameRow.holds Try.pinned (OpenSpec.ofChange Rows.internSameSpec) :=
  OpenClaim.holds_of_wide 10 Try.f10 rfl rfl rfl rfl rfl rfl rfl ⟨rfl, rfl, rfl, rfl, rfl⟩ rfl rfl rfl rfl rfl (by kernel_rfl) Try.func10 (by kernel_rfl)
    (of_decide_eq_true (by kernel_rfl)) (by unfold Func.isWrapper; first | (rw [if_pos (by decide +kernel)]; kernel_rfl) | (rw [if_neg (by decide +kernel)]; exact ⟨rfl, rfl⟩))
    (fun os started H enc _ => lifted os started H enc)
theorem proved : Rows.InternSameSaid := over
end Go.Proofs.Ytbhfenpccccloaa.internSame
namespace Go.Proofs.Ytbhfenpccccloaa
theorem internSame_holds : Rows.InternSameSaid := internSame.proved
#print axioms internSame_holds
end Go.Proofs.Ytbhfenpccccloaa
