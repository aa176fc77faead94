/- flags.Result: what it computes, and that the machine's call does so. -/
import Derived.Test.YtbhfenpccccloaaH5
import Derived.Test.YtbhfenpccccloaaF40
namespace Go.Proofs.Ytbhfenpccccloaa.M
open Go.RowKit Go.Proofs Go.Proofs.Ytbhfenpccccloaa.Hand Go.Proofs.YtbhfenpccccloaaW.PrintWords Go.Proofs.YtbhfenpccccloaaW.PrintLast Go.Proofs.YtbhfenpccccloaaW.PrintMore
attribute [local go_sem] Oper.semAt_some
set_option linter.unusedVariables false
set_option linter.unusedSimpArgs false

def flags_Result.f (k : Nat) (a0 : Int) (l1 l2 l3 : List ByteArray) : Option (List ByteArray) :=
  (flags_Kind.f k l1 l2 l3).bind fun t => (flags_Does.f k a0 t).bind fun d => if okL l1 ∧ okL l2 ∧ okL l3 then some (if d = 0 then l1 else if d = 1 then l3 else bracketG d l1 l2 l3) else none
theorem flags_Result.mono : ∀ a0 a1 a2 a3 k, LeO (flags_Result.f k a0 a1 a2 a3) (flags_Result.f (k + 1) a0 a1 a2 a3) := fun a0 a1 a2 a3 k => by
  unfold flags_Result.f
  exact LeO.bind (flags_Kind.mono _ _ _ _) (fun _ => LeO.refl _)

set_option maxHeartbeats 8000000 in
set_option maxRecDepth 100000 in
theorem flags_Result.calls (k : Nat) (a0 : Int) (P1_ : Nat → Prop) (A1 : Option Addr) (c1 : Nat) (l1 : List ByteArray) (A2 : Option Addr) (c2 : Nat) (l2 : List ByteArray) (P3_ : Nat → Prop) (A3 : Option Addr) (c3 : Nat) (l3 : List ByteArray) (r : List ByteArray) (w : World)
    (hs1 : Kd.V Kd.string 9 w w.heap.size (fun k_ => P1_ k_) (.slice A1 l1.length c1) l1) (hr2 : Kd.C Kd.string w A2 l2.length l2) (hc2 : l2.length ≤ c2) (hs3 : Kd.V Kd.string 9 w w.heap.size (fun k_ => P3_ k_) (.slice A3 l3.length c3) l3) (h : flags_Result.f k a0 l1 l2 l3 = some r) :
    Calls Try.prog 46 #[.int .u8 a0, .slice A1 l1.length c1, .slice A2 l2.length c2, .slice A3 l3.length c3] w fun e w' => ∃ v0_ : Value, e = .returned (v0_) ∧ Kd.V Kd.string 9 w' w.heap.size (fun k_ => ((P1_ k_ ∨ P3_ k_) ∨ w.heap.size ≤ k_)) v0_ r ∧ Below w.heap.size w w' := by
  unfold flags_Result.f at h
  obtain ⟨t, ht, h⟩ := Option.bind_eq_some_iff.mp h
  obtain ⟨d, hd, h⟩ := Option.bind_eq_some_iff.mp h
  split at h
  case isFalse => cases h
  case isTrue hok =>
  obtain rfl := Option.some.inj h
  clear h
  obtain ⟨h1, h2, h3⟩ := hok
  obtain ⟨_, hc1, hr1⟩ := Kd.V_reads' hs1
  obtain ⟨_, hc3, hr3⟩ := Kd.V_reads' hs3
  have S1 := Aside0.mk hs1
  have S3 := Aside0.mk hs3
  have R1 := Aside0.mk hr1
  have R2 := Aside0.mk hr2
  have R3 := Aside0.mk hr3
  have HT := Aside0.mk ht
  have HD := Aside0.mk hd
  clear hs1 hs3 hr1 hr2 hr3 ht hd
  by_cases e0 : d = 0
  · subst e0
    go_enter Try.func46, Try.ntmps46
    go_wp2_with (first
      | (go_at_call 40; (with_reducible refine (flags_Kind.calls k _ _ l1 _ _ l2 _ _ l3 t _ R1.out hc1 R2.out hc2 R3.out hc3 HT.out).mono ?_); rintro e w1 ⟨rfl, nd, rfl⟩)
      | (go_at_call 44; (with_reducible refine (flags_Does.calls k a0 t 0 _ HD.out).mono ?_); rintro e w2 ⟨rfl, hb⟩))
    go_ret
    have hB := below_step (pw_below_drewN (Below.refl w.heap.size w) nd) hb
    exact ⟨_, rfl, Kd.V_mono (Kd.V_below S1.out hB) (fun k hk => .inl (.inl hk)), hB⟩
  · by_cases e1 : d = 1
    · subst e1
      go_enter Try.func46, Try.ntmps46
      go_wp2_with (first
        | (go_at_call 40; (with_reducible refine (flags_Kind.calls k _ _ l1 _ _ l2 _ _ l3 t _ R1.out hc1 R2.out hc2 R3.out hc3 HT.out).mono ?_); rintro e w1 ⟨rfl, nd, rfl⟩)
        | (go_at_call 44; (with_reducible refine (flags_Does.calls k a0 t 1 _ HD.out).mono ?_); rintro e w2 ⟨rfl, hb⟩))
      go_ret
      have hB := below_step (pw_below_drewN (Below.refl w.heap.size w) nd) hb
      exact ⟨_, rfl, Kd.V_mono (Kd.V_below S3.out hB) (fun k hk => .inl (.inr hk)), hB⟩
    · have q0 : (d == 0) = false := by simpa using e0
      have q1 : (d == 1) = false := by simpa using e1
      rw [if_neg e0, if_neg e1]
      have E0 := Aside0.mk e0
      have E1 := Aside0.mk e1
      clear e0 e1
      go_enter Try.func46, Try.ntmps46
      go_wp2_with (first
        | (go_at_call 40; (with_reducible refine (flags_Kind.calls k _ _ l1 _ _ l2 _ _ l3 t _ R1.out hc1 R2.out hc2 R3.out hc3 HT.out).mono ?_); rintro e w1 ⟨rfl, nd, rfl⟩)
        | (go_at_call 44; (with_reducible refine (flags_Does.calls k a0 t d _ HD.out).mono ?_); rintro e w2 ⟨rfl, hb⟩
           have HB := Aside0.mk (below_step (pw_below_drewN (Below.refl w.heap.size w) nd) hb)
           clear hb)
        | (go_at_call 58; (with_reducible refine (bracket_c d A1 c1 l1 A2 c2 l2 A3 c3 l3 _ (Kd.C_below R1.out HB.out) hc1 (Kd.C_below R2.out HB.out) hc2 (Kd.C_below R3.out HB.out) hc3 h1 h2 h3).mono ?_); rintro e w3 ⟨v, rfl, hv, hb3⟩))
      go_ret
      have hB := below_step HB.out hb3
      refine ⟨_, rfl, Kd.R_V (Kd.R_mono (Kd.R_bound (Kd.R_lower hv HB.out.size)) (fun k hk => .inr hk.2.1)), hB⟩
end Go.Proofs.Ytbhfenpccccloaa.M
