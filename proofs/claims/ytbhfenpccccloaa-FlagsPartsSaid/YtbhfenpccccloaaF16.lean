/- By a program of this session: a Go function as a Lean function, and that the machine's call does what it says. -/
import Derived.Test.YtbhfenpccccloaaF0
import Derived.Test.YtbhfenpccccloaaF23
import Derived.Test.YtbhfenpccccloaaF40
import Derived.Test.YtbhfenpccccloaaF46
import Derived.Test.YtbhfenpccccloaaF38
import Derived.Test.YtbhfenpccccloaaF39
namespace Go.Proofs.Ytbhfenpccccloaa.M
open Go.RowKit Go.Proofs.YtbhfenpccccloaaW.PrintWords Go.Proofs.YtbhfenpccccloaaW.PrintLast Go.Proofs.YtbhfenpccccloaaW.PrintMore
attribute [local go_sem] max2_int min2_int max_two min_two max_three min_three max_four min_four
set_option linter.unusedVariables false
set_option linter.unusedSimpArgs false

/-! ### sennitlaw14_FlagsParts: function 16 -/
def sennitlaw14_FlagsParts.j0 : Nat → List ByteArray → List ByteArray → List ByteArray → Bool → List ByteArray → List ByteArray → Option (Bool)
  | 0, _, _, _, _, _, _ => none
  | k + 1, x0, x1, x2, x7, x9, x10 => if x7 = true then ((flags_Result.f k 101 x0 x1 x2).bind fun t418 => ((sennitref01_Same.f k t418 x9).bind fun t421 => (if t421 = true then ((flags_Result.f k 69 x0 x1 x2).bind fun t422 => ((sennitref01_Same.f k t422 x10).bind fun t425 => (some t425))) else (some false)))) else (some false)
def sennitlaw14_FlagsParts.f (k : Nat) (l0 : List ByteArray) (l1 : List ByteArray) (l2 : List ByteArray) : Option (Bool) := (sennitlaw14_awake.f k).bind fun t403 => ((sennitlaw14_few.f k l0 l1 l2).bind fun t404 => (if t404 = true then ((flags_Kind.f k l0 l1 l2).bind fun t405 => ((flags_Result.f k 51 l0 l1 l2).bind fun t406 => ((flags_Result.f k 51 l0 l1 l2).bind fun t409 => (if t405 = 4 then ((flags_Result.f k 120 l0 l1 l2).bind fun t412 => ((flags_Result.f k 88 l0 l1 l2).bind fun t415 => (sennitlaw14_FlagsParts.j0 k l0 l1 l2 t403 t412 t415))) else (sennitlaw14_FlagsParts.j0 k l0 l1 l2 t403 t406 t409))))) else (some t403)))
theorem sennitlaw14_FlagsParts.mono_l : ∀ k, (∀ y0 y1 y2 y3 y4 y5, LeO (sennitlaw14_FlagsParts.j0 k y0 y1 y2 y3 y4 y5) (sennitlaw14_FlagsParts.j0 (k + 1) y0 y1 y2 y3 y4 y5))
  | 0 => fun _ _ _ _ _ _ r h => by simp [sennitlaw14_FlagsParts.j0] at h
  | k + 1 => by
    have ih0 := sennitlaw14_FlagsParts.mono_l k
    · intro y0 y1 y2 y3 y4 y5
      unfold sennitlaw14_FlagsParts.j0
      repeat' first
      | (with_reducible exact ih0 _ _ _ _ _ _)
      | (with_reducible exact flags_Kind.mono _ _ _ _)
      | (with_reducible exact flags_Result.mono _ _ _ _ _)
      | (with_reducible exact sennitlaw14_awake.mono _)
      | (with_reducible exact sennitlaw14_few.mono _ _ _ _)
      | (with_reducible exact sennitref01_Same.mono _ _ _)
      | (with_reducible exact LeO.refl _)
      | (with_reducible exact LeO.none _)
      | (with_reducible refine LeO.ite ?_ ?_)
      | (with_reducible refine LeO.bind ?_ (fun _ => ?_))
      | exact ih0 _ _ _ _ _ _
      | exact flags_Kind.mono _ _ _ _
      | exact flags_Result.mono _ _ _ _ _
      | exact sennitlaw14_awake.mono _
      | exact sennitlaw14_few.mono _ _ _ _
      | exact sennitref01_Same.mono _ _ _
      | exact LeO.none _
      | refine LeO.ite ?_ ?_
      | refine LeO.bind ?_ (fun _ => ?_)
theorem sennitlaw14_FlagsParts.mono : ∀ a0 a1 a2 k, LeO (sennitlaw14_FlagsParts.f k a0 a1 a2) (sennitlaw14_FlagsParts.f (k + 1) a0 a1 a2) := by
  intro a0 a1 a2 k
  have ih0 := sennitlaw14_FlagsParts.mono_l k
  unfold sennitlaw14_FlagsParts.f
  repeat' first
      | (with_reducible exact ih0 _ _ _ _ _ _)
      | (with_reducible exact flags_Kind.mono _ _ _ _)
      | (with_reducible exact flags_Result.mono _ _ _ _ _)
      | (with_reducible exact sennitlaw14_awake.mono _)
      | (with_reducible exact sennitlaw14_few.mono _ _ _ _)
      | (with_reducible exact sennitref01_Same.mono _ _ _)
      | (with_reducible exact LeO.refl _)
      | (with_reducible exact LeO.none _)
      | (with_reducible refine LeO.ite ?_ ?_)
      | (with_reducible refine LeO.bind ?_ (fun _ => ?_))
      | exact ih0 _ _ _ _ _ _
      | exact flags_Kind.mono _ _ _ _
      | exact flags_Result.mono _ _ _ _ _
      | exact sennitlaw14_awake.mono _
      | exact sennitlaw14_few.mono _ _ _ _
      | exact sennitref01_Same.mono _ _ _
      | exact LeO.none _
      | refine LeO.ite ?_ ?_
      | refine LeO.bind ?_ (fun _ => ?_)
set_option maxHeartbeats 8000000 in
set_option maxRecDepth 100000 in
theorem sennitlaw14_FlagsParts.calls (k : Nat) (A0 : Option Addr) (c0 : Nat) (l0 : List ByteArray) (A1 : Option Addr) (c1 : Nat) (l1 : List ByteArray) (A2 : Option Addr) (c2 : Nat) (l2 : List ByteArray) (r : Bool) (w : World) (hr0 : Kd.C Kd.string w A0 l0.length l0) (hc0 : l0.length ≤ c0) (hr1 : Kd.C Kd.string w A1 l1.length l1) (hc1 : l1.length ≤ c1) (hr2 : Kd.C Kd.string w A2 l2.length l2) (hc2 : l2.length ≤ c2) (h : sennitlaw14_FlagsParts.f k l0 l1 l2 = some r) :
    Calls Try.prog 16 #[.slice A0 l0.length c0, .slice A1 l1.length c1, .slice A2 l2.length c2] w fun e w' => e = .returned (.bool r) ∧ Below w.heap.size w w' := by
  have HR0 := Aside0.mk hr0
  have HC0 := Aside0.mk hc0
  clear hr0 hc0
  have HR1 := Aside0.mk hr1
  have HC1 := Aside0.mk hc1
  clear hr1 hc1
  have HR2 := Aside0.mk hr2
  have HC2 := Aside0.mk hc2
  clear hr2 hc2
  have HB := Aside0.mk (Below.refl w.heap.size w)
  have H : ((sennitlaw14_awake.f k).bind fun t403 => ((sennitlaw14_few.f k l0 l1 l2).bind fun t404 => (if t404 = true then ((flags_Kind.f k l0 l1 l2).bind fun t405 => ((flags_Result.f k 51 l0 l1 l2).bind fun t406 => ((flags_Result.f k 51 l0 l1 l2).bind fun t409 => (if t405 = 4 then ((flags_Result.f k 120 l0 l1 l2).bind fun t412 => ((flags_Result.f k 88 l0 l1 l2).bind fun t415 => (sennitlaw14_FlagsParts.j0 k l0 l1 l2 t403 t412 t415))) else (sennitlaw14_FlagsParts.j0 k l0 l1 l2 t403 t406 t409))))) else (some t403)))) = some r := h
  clear h
  replace H := Option.bind_eq_some_iff.mp H
  obtain ⟨t403, A40, H⟩ := H
  replace H : ((sennitlaw14_few.f k l0 l1 l2).bind fun t404 => (if t404 = true then ((flags_Kind.f k l0 l1 l2).bind fun t405 => ((flags_Result.f k 51 l0 l1 l2).bind fun t406 => ((flags_Result.f k 51 l0 l1 l2).bind fun t409 => (if t405 = 4 then ((flags_Result.f k 120 l0 l1 l2).bind fun t412 => ((flags_Result.f k 88 l0 l1 l2).bind fun t415 => (sennitlaw14_FlagsParts.j0 k l0 l1 l2 t403 t412 t415))) else (sennitlaw14_FlagsParts.j0 k l0 l1 l2 t403 t406 t409))))) else (some t403))) = some r := H
  have A4 := Aside0.mk A40
  clear A40
  replace H := Option.bind_eq_some_iff.mp H
  obtain ⟨t404, A50, H⟩ := H
  replace H : (if t404 = true then ((flags_Kind.f k l0 l1 l2).bind fun t405 => ((flags_Result.f k 51 l0 l1 l2).bind fun t406 => ((flags_Result.f k 51 l0 l1 l2).bind fun t409 => (if t405 = 4 then ((flags_Result.f k 120 l0 l1 l2).bind fun t412 => ((flags_Result.f k 88 l0 l1 l2).bind fun t415 => (sennitlaw14_FlagsParts.j0 k l0 l1 l2 t403 t412 t415))) else (sennitlaw14_FlagsParts.j0 k l0 l1 l2 t403 t406 t409))))) else (some t403)) = some r := H
  have A5 := Aside0.mk A50
  clear A50
  by_cases c6 : t404 = true
  · subst c6
    have H1 : ((flags_Kind.f k l0 l1 l2).bind fun t405 => ((flags_Result.f k 51 l0 l1 l2).bind fun t406 => ((flags_Result.f k 51 l0 l1 l2).bind fun t409 => (if t405 = 4 then ((flags_Result.f k 120 l0 l1 l2).bind fun t412 => ((flags_Result.f k 88 l0 l1 l2).bind fun t415 => (sennitlaw14_FlagsParts.j0 k l0 l1 l2 t403 t412 t415))) else (sennitlaw14_FlagsParts.j0 k l0 l1 l2 t403 t406 t409))))) = some r := by rw [if_pos rfl] at H; exact H
    clear H
    have H := H1
    clear H1
    replace H := Option.bind_eq_some_iff.mp H
    obtain ⟨t405, A70, H⟩ := H
    replace H : ((flags_Result.f k 51 l0 l1 l2).bind fun t406 => ((flags_Result.f k 51 l0 l1 l2).bind fun t409 => (if t405 = 4 then ((flags_Result.f k 120 l0 l1 l2).bind fun t412 => ((flags_Result.f k 88 l0 l1 l2).bind fun t415 => (sennitlaw14_FlagsParts.j0 k l0 l1 l2 t403 t412 t415))) else (sennitlaw14_FlagsParts.j0 k l0 l1 l2 t403 t406 t409)))) = some r := H
    have A7 := Aside0.mk A70
    clear A70
    replace H := Option.bind_eq_some_iff.mp H
    obtain ⟨t406, A80, H⟩ := H
    replace H : ((flags_Result.f k 51 l0 l1 l2).bind fun t409 => (if t405 = 4 then ((flags_Result.f k 120 l0 l1 l2).bind fun t412 => ((flags_Result.f k 88 l0 l1 l2).bind fun t415 => (sennitlaw14_FlagsParts.j0 k l0 l1 l2 t403 t412 t415))) else (sennitlaw14_FlagsParts.j0 k l0 l1 l2 t403 t406 t409))) = some r := H
    have A8 := Aside0.mk A80
    clear A80
    replace H := Option.bind_eq_some_iff.mp H
    obtain ⟨t409, A90, H⟩ := H
    replace H : (if t405 = 4 then ((flags_Result.f k 120 l0 l1 l2).bind fun t412 => ((flags_Result.f k 88 l0 l1 l2).bind fun t415 => (sennitlaw14_FlagsParts.j0 k l0 l1 l2 t403 t412 t415))) else (sennitlaw14_FlagsParts.j0 k l0 l1 l2 t403 t406 t409)) = some r := H
    have A9 := Aside0.mk A90
    clear A90
    have HC10 := Aside0.mk H
    clear H
    go_enter Try.func16, Try.ntmps16
    go_upto_if 31 with (first | ((with_reducible refine gate_callee (f := 38) rfl ?_); refine goesL_ (some 11) rfl rfl Try.func38 (by kernel_rfl) rfl #[] rfl (by (try simp only [List.map_toArray, List.map_cons, List.map_nil]); first | done | rfl | (simp only [List.length_drop, List.length_take]; rfl)) ?_; (with_reducible refine (sennitlaw14_awake.calls k  t403 _ A4.out).mono ?_); rintro e w11 ⟨rfl, hb⟩; refine ⟨_, rfl, ?_⟩; have n0_ := Aside0.mk (below_step (by repeat (first | (with_reducible first | exact HB.out | apply below_alloc | apply pw_below_drewN | apply below_drew1) | exact HB.out)) hb); clear HB; have HB := n0_; clear n0_; (try clear hb); (try clear hb2); (try clear hk); (try clear hi)) | ((with_reducible refine gate_callee (f := 39) rfl ?_); refine goesL_ (some 15) rfl rfl Try.func39 (by kernel_rfl) rfl #[.slice A0 l0.length c0, .slice A1 l1.length c1, .slice A2 l2.length c2] rfl (by (try simp only [List.map_toArray, List.map_cons, List.map_nil]); first | done | rfl | (simp only [List.length_drop, List.length_take]; rfl)) ?_; (with_reducible refine (sennitlaw14_few.calls k _ _ l0 _ _ l1 _ _ l2 true _ ?side1 ?side2 ?side3 ?side4 ?side5 ?side6 A5.out).mono ?_); (case side1 => repeat (first | exact (Kd.C_below HR0.out HB.out) | (with_reducible refine Kd.C_alloc ?_ _) | (with_reducible refine Kd.C_drewN ?_ _) | (with_reducible refine Kd.C_drew ?_))); (case side2 => exact HC0.out); (case side3 => repeat (first | exact (Kd.C_below HR1.out HB.out) | (with_reducible refine Kd.C_alloc ?_ _) | (with_reducible refine Kd.C_drewN ?_ _) | (with_reducible refine Kd.C_drew ?_))); (case side4 => exact HC1.out); (case side5 => repeat (first | exact (Kd.C_below HR2.out HB.out) | (with_reducible refine Kd.C_alloc ?_ _) | (with_reducible refine Kd.C_drewN ?_ _) | (with_reducible refine Kd.C_drew ?_))); (case side6 => exact HC2.out); rintro e w' ⟨rfl, ⟨nd, rfl⟩⟩; refine ⟨_, rfl, ?_⟩) | ((with_reducible refine gate_callee (f := 40) rfl ?_); refine goesL_ (some 21) rfl rfl Try.func40 (by kernel_rfl) rfl #[.slice A0 l0.length c0, .slice A1 l1.length c1, .slice A2 l2.length c2] rfl (by (try simp only [List.map_toArray, List.map_cons, List.map_nil]); first | done | rfl | (simp only [List.length_drop, List.length_take]; rfl)) ?_; (with_reducible refine (flags_Kind.calls k _ _ l0 _ _ l1 _ _ l2 t405 _ ?side1 ?side2 ?side3 ?side4 ?side5 ?side6 A7.out).mono ?_); (case side1 => repeat (first | exact (Kd.C_below HR0.out (by repeat (first | (with_reducible first | exact HB.out | apply below_alloc | apply pw_below_drewN | apply below_drew1) | exact HB.out))) | (with_reducible refine Kd.C_alloc ?_ _) | (with_reducible refine Kd.C_drewN ?_ _) | (with_reducible refine Kd.C_drew ?_))); (case side2 => exact HC0.out); (case side3 => repeat (first | exact (Kd.C_below HR1.out (by repeat (first | (with_reducible first | exact HB.out | apply below_alloc | apply pw_below_drewN | apply below_drew1) | exact HB.out))) | (with_reducible refine Kd.C_alloc ?_ _) | (with_reducible refine Kd.C_drewN ?_ _) | (with_reducible refine Kd.C_drew ?_))); (case side4 => exact HC1.out); (case side5 => repeat (first | exact (Kd.C_below HR2.out (by repeat (first | (with_reducible first | exact HB.out | apply below_alloc | apply pw_below_drewN | apply below_drew1) | exact HB.out))) | (with_reducible refine Kd.C_alloc ?_ _) | (with_reducible refine Kd.C_drewN ?_ _) | (with_reducible refine Kd.C_drew ?_))); (case side6 => exact HC2.out); rintro e w' ⟨rfl, ⟨nd, rfl⟩⟩; refine ⟨_, rfl, ?_⟩) | ((with_reducible refine gate_callee (f := 46) rfl ?_); refine goesL_ (some 25) rfl rfl Try.func46 (by kernel_rfl) rfl #[.int .u8 51, .slice A0 l0.length c0, .slice A1 l1.length c1, .slice A2 l2.length c2] rfl (by (try simp only [List.map_toArray, List.map_cons, List.map_nil]); first | done | rfl | (simp only [List.length_drop, List.length_take]; rfl)) ?_; (with_reducible refine (flags_Result.calls k 51 (fun k_ => k_ < w.heap.size) _ _ l0 _ _ l1 (fun k_ => k_ < w.heap.size) _ _ l2 t406 _ ?side1 ?side2 ?side3 ?side4 A8.out).mono ?_); (case side1 => exact Kd.V_mk HC0.out (Kd.F_below (Kd.C_F Kd.heap_string HR0.out) (by repeat (first | (with_reducible first | exact HB.out | apply below_alloc | apply pw_below_drewN | apply below_drew1) | exact HB.out)))); (case side2 => repeat (first | exact (Kd.C_below HR1.out (by repeat (first | (with_reducible first | exact HB.out | apply below_alloc | apply pw_below_drewN | apply below_drew1) | exact HB.out))) | (with_reducible refine Kd.C_alloc ?_ _) | (with_reducible refine Kd.C_drewN ?_ _) | (with_reducible refine Kd.C_drew ?_))); (case side3 => exact HC1.out); (case side4 => exact Kd.V_mk HC2.out (Kd.F_below (Kd.C_F Kd.heap_string HR2.out) (by repeat (first | (with_reducible first | exact HB.out | apply below_alloc | apply pw_below_drewN | apply below_drew1) | exact HB.out)))); rintro e w12 ⟨v407, rfl, ho0, hb⟩; refine ⟨_, rfl, ?_⟩; have n0_ := Aside0.mk (Kd.V_lower (Kd.V_mono (ok' := fun k_ => True) ho0 (fun k_ hk_ => trivial)) (below_size (by repeat (first | (with_reducible first | exact HB.out | apply below_alloc | apply pw_below_drewN | apply below_drew1) | exact HB.out)))); have n1_ := Aside0.mk (below_step (by repeat (first | (with_reducible first | exact HB.out | apply below_alloc | apply pw_below_drewN | apply below_drew1) | exact HB.out)) hb); clear HB; have HO408 := n0_; have HB := n1_; clear n0_ n1_; (try clear hb); (try clear hb2); (try clear hk); (try clear hi); (try clear ho0)) | ((with_reducible refine gate_callee (f := 46) rfl ?_); refine goesL_ (some 29) rfl rfl Try.func46 (by kernel_rfl) rfl #[.int .u8 51, .slice A0 l0.length c0, .slice A1 l1.length c1, .slice A2 l2.length c2] rfl (by (try simp only [List.map_toArray, List.map_cons, List.map_nil]); first | done | rfl | (simp only [List.length_drop, List.length_take]; rfl)) ?_; (with_reducible refine (flags_Result.calls k 51 (fun k_ => k_ < w.heap.size) _ _ l0 _ _ l1 (fun k_ => k_ < w.heap.size) _ _ l2 t409 _ ?side1 ?side2 ?side3 ?side4 A9.out).mono ?_); (case side1 => exact Kd.V_mk HC0.out (Kd.F_below (Kd.C_F Kd.heap_string HR0.out) (by repeat (first | (with_reducible first | exact HB.out | apply below_alloc | apply pw_below_drewN | apply below_drew1) | exact HB.out)))); (case side2 => repeat (first | exact (Kd.C_below HR1.out HB.out) | (with_reducible refine Kd.C_alloc ?_ _) | (with_reducible refine Kd.C_drewN ?_ _) | (with_reducible refine Kd.C_drew ?_))); (case side3 => exact HC1.out); (case side4 => exact Kd.V_mk HC2.out (Kd.F_below (Kd.C_F Kd.heap_string HR2.out) (by repeat (first | (with_reducible first | exact HB.out | apply below_alloc | apply pw_below_drewN | apply below_drew1) | exact HB.out)))); rintro e w13 ⟨v410, rfl, ho0, hb⟩; refine ⟨_, rfl, ?_⟩; have n0_ := Aside0.mk (Kd.V_below (by (with_reducible repeat (first | apply Kd.V_alloc | apply Kd.V_drewN | apply Kd.V_drew)); exact HO408.out) hb); have n1_ := Aside0.mk (Kd.V_lower (Kd.V_mono (ok' := fun k_ => True) ho0 (fun k_ hk_ => trivial)) (below_size (by repeat (first | (with_reducible first | exact HB.out | apply below_alloc | apply pw_below_drewN | apply below_drew1) | exact HB.out)))); have n2_ := Aside0.mk (below_step (by repeat (first | (with_reducible first | exact HB.out | apply below_alloc | apply pw_below_drewN | apply below_drew1) | exact HB.out)) hb); clear HO408; clear HB; have HO408 := n0_; have HO411 := n1_; have HB := n2_; clear n0_ n1_ n2_; (try clear hb); (try clear hb2); (try clear hk); (try clear hi); (try clear ho0)))
    (try simp only [Act.put, List.setIfInBounds_toArray, List.set_cons_zero, List.set_cons_succ])
    go_cut [9, 10] (fun v9 v10 wc => ∃ (kq : Nat) (x9_9 : List ByteArray) (x10_9 : List ByteArray), Aside0 (sennitlaw14_FlagsParts.j0 kq l0 l1 l2 t403 x9_9 x10_9 = some r) ∧ Aside0 (kq ≤ k) ∧ Aside0 (Kd.V Kd.string 9 wc w.heap.size (fun _ => True) v9 x9_9) ∧ Aside0 (Kd.V Kd.string 9 wc w.heap.size (fun _ => True) v10 x10_9) ∧ Aside0 (Below w.heap.size w wc))
    case first =>
      have H := HC10.out
      clear HC10
      by_cases c14 : t405 = 4
      · rw [if_pos c14] at H
        have c14b0 : (t405 == 4) = true := beq_iff_eq.mpr c14
        have c14b1 : (t405 != 4) = false := bne_eq_false_iff_eq.mpr c14
        clear c14
        (first | rw [c14b0] | (simp only [i64_w, i32_w]; rw [c14b0]) | skip)
        replace H := Option.bind_eq_some_iff.mp H
        obtain ⟨t412, A150, H⟩ := H
        replace H : ((flags_Result.f k 88 l0 l1 l2).bind fun t415 => (sennitlaw14_FlagsParts.j0 k l0 l1 l2 t403 t412 t415)) = some r := H
        have A15 := Aside0.mk A150
        clear A150
        replace H := Option.bind_eq_some_iff.mp H
        obtain ⟨t415, A160, H⟩ := H
        replace H : (sennitlaw14_FlagsParts.j0 k l0 l1 l2 t403 t412 t415) = some r := H
        have A16 := Aside0.mk A160
        clear A160
        have H' := Aside0.mk H
        clear H
        go_wp2_with (first | ((with_reducible refine gate_callee (f := 46) rfl ?_); refine goesL_ (some 35) rfl rfl Try.func46 (by kernel_rfl) rfl #[.int .u8 120, .slice A0 l0.length c0, .slice A1 l1.length c1, .slice A2 l2.length c2] rfl (by (try simp only [List.map_toArray, List.map_cons, List.map_nil]); first | done | rfl | (simp only [List.length_drop, List.length_take]; rfl)) ?_; (with_reducible refine (flags_Result.calls k 120 (fun k_ => k_ < w.heap.size) _ _ l0 _ _ l1 (fun k_ => k_ < w.heap.size) _ _ l2 t412 _ ?side1 ?side2 ?side3 ?side4 A15.out).mono ?_); (case side1 => exact Kd.V_mk HC0.out (Kd.F_below (Kd.C_F Kd.heap_string HR0.out) (by repeat (first | (with_reducible first | exact HB.out | apply below_alloc | apply pw_below_drewN | apply below_drew1) | exact HB.out)))); (case side2 => repeat (first | exact (Kd.C_below HR1.out HB.out) | (with_reducible refine Kd.C_alloc ?_ _) | (with_reducible refine Kd.C_drewN ?_ _) | (with_reducible refine Kd.C_drew ?_))); (case side3 => exact HC1.out); (case side4 => exact Kd.V_mk HC2.out (Kd.F_below (Kd.C_F Kd.heap_string HR2.out) (by repeat (first | (with_reducible first | exact HB.out | apply below_alloc | apply pw_below_drewN | apply below_drew1) | exact HB.out)))); rintro e w17 ⟨v413, rfl, ho0, hb⟩; refine ⟨_, rfl, ?_⟩; have n0_ := Aside0.mk (Kd.V_below (by (with_reducible repeat (first | apply Kd.V_alloc | apply Kd.V_drewN | apply Kd.V_drew)); exact HO408.out) hb); have n1_ := Aside0.mk (Kd.V_below (by (with_reducible repeat (first | apply Kd.V_alloc | apply Kd.V_drewN | apply Kd.V_drew)); exact HO411.out) hb); have n2_ := Aside0.mk (Kd.V_lower (Kd.V_mono (ok' := fun k_ => True) ho0 (fun k_ hk_ => trivial)) (below_size (by repeat (first | (with_reducible first | exact HB.out | apply below_alloc | apply pw_below_drewN | apply below_drew1) | exact HB.out)))); have n3_ := Aside0.mk (below_step (by repeat (first | (with_reducible first | exact HB.out | apply below_alloc | apply pw_below_drewN | apply below_drew1) | exact HB.out)) hb); clear HO408; clear HO411; clear HB; have HO408 := n0_; have HO411 := n1_; have HO414 := n2_; have HB := n3_; clear n0_ n1_ n2_ n3_; (try clear hb); (try clear hb2); (try clear hk); (try clear hi); (try clear ho0)) | ((with_reducible refine gate_callee (f := 46) rfl ?_); refine goesL_ (some 39) rfl rfl Try.func46 (by kernel_rfl) rfl #[.int .u8 88, .slice A0 l0.length c0, .slice A1 l1.length c1, .slice A2 l2.length c2] rfl (by (try simp only [List.map_toArray, List.map_cons, List.map_nil]); first | done | rfl | (simp only [List.length_drop, List.length_take]; rfl)) ?_; (with_reducible refine (flags_Result.calls k 88 (fun k_ => k_ < w.heap.size) _ _ l0 _ _ l1 (fun k_ => k_ < w.heap.size) _ _ l2 t415 _ ?side1 ?side2 ?side3 ?side4 A16.out).mono ?_); (case side1 => exact Kd.V_mk HC0.out (Kd.F_below (Kd.C_F Kd.heap_string HR0.out) (by repeat (first | (with_reducible first | exact HB.out | apply below_alloc | apply pw_below_drewN | apply below_drew1) | exact HB.out)))); (case side2 => repeat (first | exact (Kd.C_below HR1.out HB.out) | (with_reducible refine Kd.C_alloc ?_ _) | (with_reducible refine Kd.C_drewN ?_ _) | (with_reducible refine Kd.C_drew ?_))); (case side3 => exact HC1.out); (case side4 => exact Kd.V_mk HC2.out (Kd.F_below (Kd.C_F Kd.heap_string HR2.out) (by repeat (first | (with_reducible first | exact HB.out | apply below_alloc | apply pw_below_drewN | apply below_drew1) | exact HB.out)))); rintro e w18 ⟨v416, rfl, ho0, hb⟩; refine ⟨_, rfl, ?_⟩; have n0_ := Aside0.mk (Kd.V_below (by (with_reducible repeat (first | apply Kd.V_alloc | apply Kd.V_drewN | apply Kd.V_drew)); exact HO408.out) hb); have n1_ := Aside0.mk (Kd.V_below (by (with_reducible repeat (first | apply Kd.V_alloc | apply Kd.V_drewN | apply Kd.V_drew)); exact HO411.out) hb); have n2_ := Aside0.mk (Kd.V_below (by (with_reducible repeat (first | apply Kd.V_alloc | apply Kd.V_drewN | apply Kd.V_drew)); exact HO414.out) hb); have n3_ := Aside0.mk (Kd.V_lower (Kd.V_mono (ok' := fun k_ => True) ho0 (fun k_ hk_ => trivial)) (below_size (by repeat (first | (with_reducible first | exact HB.out | apply below_alloc | apply pw_below_drewN | apply below_drew1) | exact HB.out)))); have n4_ := Aside0.mk (below_step (by repeat (first | (with_reducible first | exact HB.out | apply below_alloc | apply pw_below_drewN | apply below_drew1) | exact HB.out)) hb); clear HO408; clear HO411; clear HO414; clear HB; have HO408 := n0_; have HO411 := n1_; have HO414 := n2_; have HO417 := n3_; have HB := n4_; clear n0_ n1_ n2_ n3_ n4_; (try clear hb); (try clear hb2); (try clear hk); (try clear hi); (try clear ho0)))
        go_meet
        case rel => exact ⟨_, (t412), (t415), H', ⟨by first | omega | exact Nat.le_refl _⟩, ⟨by (with_reducible repeat (first | apply Kd.V_alloc | apply Kd.V_drewN | apply Kd.V_drew)); exact HO414.out⟩, ⟨by (with_reducible repeat (first | apply Kd.V_alloc | apply Kd.V_drewN | apply Kd.V_drew)); exact HO417.out⟩, ⟨by repeat (first | (with_reducible first | exact HB.out | apply below_alloc | apply pw_below_drewN | apply below_drew1) | exact HB.out)⟩⟩
      · rw [if_neg c14] at H
        have c14b0 : (t405 == 4) = false := beq_eq_false_iff_ne.mpr c14
        have c14b1 : (t405 != 4) = true := bne_iff_ne.mpr c14
        (first | rw [c14b0] | (simp only [i64_w, i32_w]; rw [c14b0]) | skip)
        have H' := Aside0.mk H
        clear H
        go_wp2
        go_meet
        case rel => exact ⟨_, (t406), (t409), H', ⟨by first | omega | exact Nat.le_refl _⟩, ⟨by (with_reducible repeat (first | apply Kd.V_alloc | apply Kd.V_drewN | apply Kd.V_drew)); exact HO408.out⟩, ⟨by (with_reducible repeat (first | apply Kd.V_alloc | apply Kd.V_drewN | apply Kd.V_drew)); exact HO411.out⟩, ⟨by repeat (first | (with_reducible first | exact HB.out | apply below_alloc | apply pw_below_drewN | apply below_drew1) | exact HB.out)⟩⟩
    case rest =>
      clear HC10
      try clear c1
      try clear c2
      try clear p2
      try clear c3
      try clear c4
      try clear c6
      try clear c14
      try clear c14b0
      try clear c14b1
      try clear c16
      obtain ⟨kq, x9_9, x10_9, HA, HJ9, HO_9, HO_10, HB⟩ := hcut
      cases kq with
      | zero => exact absurd HA.out (by simp [sennitlaw14_FlagsParts.j0])
      | succ kj9 =>
        have H := HA.out
        clear HA
        simp only [sennitlaw14_FlagsParts.j0] at H
        by_cases c19 : t403 = true
        · subst c19
          have H1 : ((flags_Result.f kj9 101 l0 l1 l2).bind fun t418 => ((sennitref01_Same.f kj9 t418 x9_9).bind fun t421 => (if t421 = true then ((flags_Result.f kj9 69 l0 l1 l2).bind fun t422 => ((sennitref01_Same.f kj9 t422 x10_9).bind fun t425 => (some t425))) else (some false)))) = some r := by rw [if_pos rfl] at H; exact H
          clear H
          have H := H1
          clear H1
          replace H := Option.bind_eq_some_iff.mp H
          obtain ⟨t418, A200, H⟩ := H
          replace H : ((sennitref01_Same.f kj9 t418 x9_9).bind fun t421 => (if t421 = true then ((flags_Result.f kj9 69 l0 l1 l2).bind fun t422 => ((sennitref01_Same.f kj9 t422 x10_9).bind fun t425 => (some t425))) else (some false))) = some r := H
          have A20 := Aside0.mk A200
          clear A200
          replace H := Option.bind_eq_some_iff.mp H
          obtain ⟨t421, A210, H⟩ := H
          replace H : (if t421 = true then ((flags_Result.f kj9 69 l0 l1 l2).bind fun t422 => ((sennitref01_Same.f kj9 t422 x10_9).bind fun t425 => (some t425))) else (some false)) = some r := H
          have A21 := Aside0.mk A210
          clear A210
          by_cases c22 : t421 = true
          · subst c22
            have H1 : ((flags_Result.f kj9 69 l0 l1 l2).bind fun t422 => ((sennitref01_Same.f kj9 t422 x10_9).bind fun t425 => (some t425))) = some r := by rw [if_pos rfl] at H; exact H
            clear H
            have H := H1
            clear H1
            replace H := Option.bind_eq_some_iff.mp H
            obtain ⟨t422, A230, H⟩ := H
            replace H : ((sennitref01_Same.f kj9 t422 x10_9).bind fun t425 => (some t425)) = some r := H
            have A23 := Aside0.mk A230
            clear A230
            replace H := Option.bind_eq_some_iff.mp H
            obtain ⟨t425, A240, H⟩ := H
            replace H : (some t425) = some r := H
            have A24 := Aside0.mk A240
            clear A240
            obtain rfl := Option.some.inj H
            go_wp2_with (first | (go_at_call 46; (with_reducible refine (flags_Result.calls kj9 101 (fun k_ => k_ < w.heap.size) _ _ l0 _ _ l1 (fun k_ => k_ < w.heap.size) _ _ l2 t418 _ ?side1 ?side2 ?side3 ?side4 A20.out).mono ?_); (case side1 => exact Kd.V_mk HC0.out (Kd.F_below (Kd.C_F Kd.heap_string HR0.out) (by repeat (first | (with_reducible first | exact HB.out | apply below_alloc | apply pw_below_drewN | apply below_drew1) | exact HB.out)))); (case side2 => repeat (first | exact (Kd.C_below HR1.out HB.out) | (with_reducible refine Kd.C_alloc ?_ _) | (with_reducible refine Kd.C_drewN ?_ _) | (with_reducible refine Kd.C_drew ?_))); (case side3 => exact HC1.out); (case side4 => exact Kd.V_mk HC2.out (Kd.F_below (Kd.C_F Kd.heap_string HR2.out) (by repeat (first | (with_reducible first | exact HB.out | apply below_alloc | apply pw_below_drewN | apply below_drew1) | exact HB.out)))); rintro e w25 ⟨v419, rfl, ho0, hb⟩; have n0_ := Aside0.mk (Kd.V_below (by (with_reducible repeat (first | apply Kd.V_alloc | apply Kd.V_drewN | apply Kd.V_drew)); exact HO_9.out) hb); have n1_ := Aside0.mk (Kd.V_below (by (with_reducible repeat (first | apply Kd.V_alloc | apply Kd.V_drewN | apply Kd.V_drew)); exact HO_10.out) hb); have n2_ := Aside0.mk (Kd.V_lower (Kd.V_mono (ok' := fun k_ => True) ho0 (fun k_ hk_ => trivial)) (below_size (by repeat (first | (with_reducible first | exact HB.out | apply below_alloc | apply pw_below_drewN | apply below_drew1) | exact HB.out)))); have n3_ := Aside0.mk (below_step (by repeat (first | (with_reducible first | exact HB.out | apply below_alloc | apply pw_below_drewN | apply below_drew1) | exact HB.out)) hb); clear HO_9; clear HO_10; clear HB; have HO_9 := n0_; have HO_10 := n1_; have HO420 := n2_; have HB := n3_; clear n0_ n1_ n2_ n3_; (try clear hb); (try clear hb2); (try clear hk); (try clear hi); (try clear ho0); obtain ⟨Ao26, co26, eo26⟩ := Kd.V_slice HO420.out; subst eo26; obtain ⟨Ao27, co27, eo27⟩ := Kd.V_slice HO_9.out; subst eo27) | (go_at_call 23; (with_reducible refine (sennitref01_Same.calls kj9 _ _ t418 _ _ x9_9 true _ ?side1 ?side2 ?side3 ?side4 A21.out).mono ?_); (case side1 => repeat (first | exact (Kd.V_reads' HO420.out).2.2 | (with_reducible refine Kd.C_alloc ?_ _) | (with_reducible refine Kd.C_drewN ?_ _) | (with_reducible refine Kd.C_drew ?_))); (case side2 => exact (Kd.V_reads' HO420.out).2.1); (case side3 => repeat (first | exact (Kd.V_reads' HO_9.out).2.2 | (with_reducible refine Kd.C_alloc ?_ _) | (with_reducible refine Kd.C_drewN ?_ _) | (with_reducible refine Kd.C_drew ?_))); (case side4 => exact (Kd.V_reads' HO_9.out).2.1); rintro e w' ⟨rfl, ⟨nd, rfl⟩⟩) | (go_at_call 46; (with_reducible refine (flags_Result.calls kj9 69 (fun k_ => k_ < w.heap.size) _ _ l0 _ _ l1 (fun k_ => k_ < w.heap.size) _ _ l2 t422 _ ?side1 ?side2 ?side3 ?side4 A23.out).mono ?_); (case side1 => exact Kd.V_mk HC0.out (Kd.F_below (Kd.C_F Kd.heap_string HR0.out) (by repeat (first | (with_reducible first | exact HB.out | apply below_alloc | apply pw_below_drewN | apply below_drew1) | exact HB.out)))); (case side2 => repeat (first | exact (Kd.C_below HR1.out (by repeat (first | (with_reducible first | exact HB.out | apply below_alloc | apply pw_below_drewN | apply below_drew1) | exact HB.out))) | (with_reducible refine Kd.C_alloc ?_ _) | (with_reducible refine Kd.C_drewN ?_ _) | (with_reducible refine Kd.C_drew ?_))); (case side3 => exact HC1.out); (case side4 => exact Kd.V_mk HC2.out (Kd.F_below (Kd.C_F Kd.heap_string HR2.out) (by repeat (first | (with_reducible first | exact HB.out | apply below_alloc | apply pw_below_drewN | apply below_drew1) | exact HB.out)))); rintro e w28 ⟨v423, rfl, ho0, hb⟩; have n0_ := Aside0.mk (Kd.V_below (by (with_reducible repeat (first | apply Kd.V_alloc | apply Kd.V_drewN | apply Kd.V_drew)); exact HO_9.out) hb); have n1_ := Aside0.mk (Kd.V_below (by (with_reducible repeat (first | apply Kd.V_alloc | apply Kd.V_drewN | apply Kd.V_drew)); exact HO_10.out) hb); have n2_ := Aside0.mk (Kd.V_below (by (with_reducible repeat (first | apply Kd.V_alloc | apply Kd.V_drewN | apply Kd.V_drew)); exact HO420.out) hb); have n3_ := Aside0.mk (Kd.V_lower (Kd.V_mono (ok' := fun k_ => True) ho0 (fun k_ hk_ => trivial)) (below_size (by repeat (first | (with_reducible first | exact HB.out | apply below_alloc | apply pw_below_drewN | apply below_drew1) | exact HB.out)))); have n4_ := Aside0.mk (below_step (by repeat (first | (with_reducible first | exact HB.out | apply below_alloc | apply pw_below_drewN | apply below_drew1) | exact HB.out)) hb); clear HO_9; clear HO_10; clear HO420; clear HB; have HO_9 := n0_; have HO_10 := n1_; have HO420 := n2_; have HO424 := n3_; have HB := n4_; clear n0_ n1_ n2_ n3_ n4_; (try clear hb); (try clear hb2); (try clear hk); (try clear hi); (try clear ho0); obtain ⟨Ao29, co29, eo29⟩ := Kd.V_slice HO424.out; subst eo29; obtain ⟨Ao30, co30, eo30⟩ := Kd.V_slice HO_10.out; subst eo30) | (go_at_call 23; (with_reducible refine (sennitref01_Same.calls kj9 _ _ t422 _ _ x10_9 t425 _ ?side1 ?side2 ?side3 ?side4 A24.out).mono ?_); (case side1 => repeat (first | exact (Kd.V_reads' HO424.out).2.2 | (with_reducible refine Kd.C_alloc ?_ _) | (with_reducible refine Kd.C_drewN ?_ _) | (with_reducible refine Kd.C_drew ?_))); (case side2 => exact (Kd.V_reads' HO424.out).2.1); (case side3 => repeat (first | exact (Kd.V_reads' HO_10.out).2.2 | (with_reducible refine Kd.C_alloc ?_ _) | (with_reducible refine Kd.C_drewN ?_ _) | (with_reducible refine Kd.C_drew ?_))); (case side4 => exact (Kd.V_reads' HO_10.out).2.1); rintro e w' ⟨rfl, ⟨nd, rfl⟩⟩))
            go_ret
            exact ⟨by first | rfl | (simp [errW_none, errW_some] <;> rfl) | (simp [*, errW_none, errW_some] <;> rfl), by repeat (first | (with_reducible first | exact HB.out | apply below_alloc | apply pw_below_drewN | apply below_drew1) | exact HB.out)⟩
          · replace c22 := Bool.eq_false_iff.mpr c22
            subst c22
            have H1 : (some false) = some r := by rw [if_neg (show ¬ (false = true) by decide)] at H; exact H
            clear H
            have H := H1
            clear H1
            obtain rfl := Option.some.inj H
            go_wp2_with (first | (go_at_call 46; (with_reducible refine (flags_Result.calls kj9 101 (fun k_ => k_ < w.heap.size) _ _ l0 _ _ l1 (fun k_ => k_ < w.heap.size) _ _ l2 t418 _ ?side1 ?side2 ?side3 ?side4 A20.out).mono ?_); (case side1 => exact Kd.V_mk HC0.out (Kd.F_below (Kd.C_F Kd.heap_string HR0.out) (by repeat (first | (with_reducible first | exact HB.out | apply below_alloc | apply pw_below_drewN | apply below_drew1) | exact HB.out)))); (case side2 => repeat (first | exact (Kd.C_below HR1.out HB.out) | (with_reducible refine Kd.C_alloc ?_ _) | (with_reducible refine Kd.C_drewN ?_ _) | (with_reducible refine Kd.C_drew ?_))); (case side3 => exact HC1.out); (case side4 => exact Kd.V_mk HC2.out (Kd.F_below (Kd.C_F Kd.heap_string HR2.out) (by repeat (first | (with_reducible first | exact HB.out | apply below_alloc | apply pw_below_drewN | apply below_drew1) | exact HB.out)))); rintro e w31 ⟨v419, rfl, ho0, hb⟩; have n0_ := Aside0.mk (Kd.V_below (by (with_reducible repeat (first | apply Kd.V_alloc | apply Kd.V_drewN | apply Kd.V_drew)); exact HO_9.out) hb); have n1_ := Aside0.mk (Kd.V_below (by (with_reducible repeat (first | apply Kd.V_alloc | apply Kd.V_drewN | apply Kd.V_drew)); exact HO_10.out) hb); have n2_ := Aside0.mk (Kd.V_lower (Kd.V_mono (ok' := fun k_ => True) ho0 (fun k_ hk_ => trivial)) (below_size (by repeat (first | (with_reducible first | exact HB.out | apply below_alloc | apply pw_below_drewN | apply below_drew1) | exact HB.out)))); have n3_ := Aside0.mk (below_step (by repeat (first | (with_reducible first | exact HB.out | apply below_alloc | apply pw_below_drewN | apply below_drew1) | exact HB.out)) hb); clear HO_9; clear HO_10; clear HB; have HO_9 := n0_; have HO_10 := n1_; have HO420 := n2_; have HB := n3_; clear n0_ n1_ n2_ n3_; (try clear hb); (try clear hb2); (try clear hk); (try clear hi); (try clear ho0); obtain ⟨Ao32, co32, eo32⟩ := Kd.V_slice HO420.out; subst eo32; obtain ⟨Ao33, co33, eo33⟩ := Kd.V_slice HO_9.out; subst eo33) | (go_at_call 23; (with_reducible refine (sennitref01_Same.calls kj9 _ _ t418 _ _ x9_9 false _ ?side1 ?side2 ?side3 ?side4 A21.out).mono ?_); (case side1 => repeat (first | exact (Kd.V_reads' HO420.out).2.2 | (with_reducible refine Kd.C_alloc ?_ _) | (with_reducible refine Kd.C_drewN ?_ _) | (with_reducible refine Kd.C_drew ?_))); (case side2 => exact (Kd.V_reads' HO420.out).2.1); (case side3 => repeat (first | exact (Kd.V_reads' HO_9.out).2.2 | (with_reducible refine Kd.C_alloc ?_ _) | (with_reducible refine Kd.C_drewN ?_ _) | (with_reducible refine Kd.C_drew ?_))); (case side4 => exact (Kd.V_reads' HO_9.out).2.1); rintro e w' ⟨rfl, ⟨nd, rfl⟩⟩))
            go_ret
            exact ⟨by first | rfl | (simp [errW_none, errW_some] <;> rfl) | (simp [*, errW_none, errW_some] <;> rfl), by repeat (first | (with_reducible first | exact HB.out | apply below_alloc | apply pw_below_drewN | apply below_drew1) | exact HB.out)⟩
        · replace c19 := Bool.eq_false_iff.mpr c19
          subst c19
          have H1 : (some false) = some r := by rw [if_neg (show ¬ (false = true) by decide)] at H; exact H
          clear H
          have H := H1
          clear H1
          obtain rfl := Option.some.inj H
          go_wp2
          go_ret
          exact ⟨by first | rfl | (simp [errW_none, errW_some] <;> rfl) | (simp [*, errW_none, errW_some] <;> rfl), by repeat (first | (with_reducible first | exact HB.out | apply below_alloc | apply pw_below_drewN | apply below_drew1) | exact HB.out)⟩
  · replace c6 := Bool.eq_false_iff.mpr c6
    subst c6
    have H1 : (some t403) = some r := by rw [if_neg (show ¬ (false = true) by decide)] at H; exact H
    clear H
    have H := H1
    clear H1
    obtain rfl := Option.some.inj H
    go_enter Try.func16, Try.ntmps16
    go_wp2_with (first | ((with_reducible refine gate_callee (f := 38) rfl ?_); refine goesL_ (some 11) rfl rfl Try.func38 (by kernel_rfl) rfl #[] rfl (by (try simp only [List.map_toArray, List.map_cons, List.map_nil]); first | done | rfl | (simp only [List.length_drop, List.length_take]; rfl)) ?_; (with_reducible refine (sennitlaw14_awake.calls k  t403 _ A4.out).mono ?_); rintro e w34 ⟨rfl, hb⟩; refine ⟨_, rfl, ?_⟩; have n0_ := Aside0.mk (below_step (by repeat (first | (with_reducible first | exact HB.out | apply below_alloc | apply pw_below_drewN | apply below_drew1) | exact HB.out)) hb); clear HB; have HB := n0_; clear n0_; (try clear hb); (try clear hb2); (try clear hk); (try clear hi)) | ((with_reducible refine gate_callee (f := 39) rfl ?_); refine goesL_ (some 15) rfl rfl Try.func39 (by kernel_rfl) rfl #[.slice A0 l0.length c0, .slice A1 l1.length c1, .slice A2 l2.length c2] rfl (by (try simp only [List.map_toArray, List.map_cons, List.map_nil]); first | done | rfl | (simp only [List.length_drop, List.length_take]; rfl)) ?_; (with_reducible refine (sennitlaw14_few.calls k _ _ l0 _ _ l1 _ _ l2 false _ ?side1 ?side2 ?side3 ?side4 ?side5 ?side6 A5.out).mono ?_); (case side1 => repeat (first | exact (Kd.C_below HR0.out HB.out) | (with_reducible refine Kd.C_alloc ?_ _) | (with_reducible refine Kd.C_drewN ?_ _) | (with_reducible refine Kd.C_drew ?_))); (case side2 => exact HC0.out); (case side3 => repeat (first | exact (Kd.C_below HR1.out HB.out) | (with_reducible refine Kd.C_alloc ?_ _) | (with_reducible refine Kd.C_drewN ?_ _) | (with_reducible refine Kd.C_drew ?_))); (case side4 => exact HC1.out); (case side5 => repeat (first | exact (Kd.C_below HR2.out HB.out) | (with_reducible refine Kd.C_alloc ?_ _) | (with_reducible refine Kd.C_drewN ?_ _) | (with_reducible refine Kd.C_drew ?_))); (case side6 => exact HC2.out); rintro e w' ⟨rfl, ⟨nd, rfl⟩⟩; refine ⟨_, rfl, ?_⟩))
    go_ret
    exact ⟨by first | rfl | (simp [errW_none, errW_some] <;> rfl) | (simp [*, errW_none, errW_some] <;> rfl), by repeat (first | (with_reducible first | exact HB.out | apply below_alloc | apply pw_below_drewN | apply below_drew1) | exact HB.out)⟩

end Go.Proofs.Ytbhfenpccccloaa.M
