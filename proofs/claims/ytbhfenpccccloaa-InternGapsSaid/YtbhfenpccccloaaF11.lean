/- By a program of this session: a Go function as a Lean function, and that the machine's call does what it says. -/
import Derived.Test.YtbhfenpccccloaaF0
import Derived.Test.YtbhfenpccccloaaF28
import Derived.Test.YtbhfenpccccloaaF34
import Derived.Test.YtbhfenpccccloaaF35
namespace Go.Proofs.Ytbhfenpccccloaa.M
open Go.RowKit Go.Proofs.YtbhfenpccccloaaW.PrintWords Go.Proofs.YtbhfenpccccloaaW.PrintLast Go.Proofs.YtbhfenpccccloaaW.PrintMore
attribute [local go_sem] max2_int min2_int max_two min_two max_three min_three max_four min_four
set_option linter.unusedVariables false
set_option linter.unusedSimpArgs false

/-! ### sennitlaw02_InternGaps: function 11 -/
mutual
def sennitlaw02_InternGaps.l0 : Nat → Bool → List (List Int) → Int → Int → Option (Bool)
  | 0, _, _, _, _ => none
  | k + 1, x3, x4, x5, x6 => if x6 < (x4.length : Int) then (sennitlaw02_InternGaps.l1 k x3 x4 x5 x6 0) else (some x3)
def sennitlaw02_InternGaps.l1 : Nat → Bool → List (List Int) → Int → Int → Int → Option (Bool)
  | 0, _, _, _, _, _ => none
  | k + 1, x3, x4, x5, x6, x7 => if 0 ≤ x6 then (if x6 < (x4.length : Int) then (if x7 < ((rd_L5 x4 x6).length : Int) then (if 0 ≤ x7 then (if (rd (rd_L5 x4 x6) x7) < 0 then (sennitlaw02_InternGaps.j2 k x3 x4 x5 x6 x7 true) else (sennitlaw02_InternGaps.j2 k x3 x4 x5 x6 x7 (decide ((rd (rd_L5 x4 x6) x7) > x5)))) else (none)) else (sennitlaw02_InternGaps.l0 k x3 x4 x5 (wrap64 (x6 + 1)))) else (none)) else (none)
def sennitlaw02_InternGaps.j2 : Nat → Bool → List (List Int) → Int → Int → Int → Bool → Option (Bool)
  | 0, _, _, _, _, _, _ => none
  | k + 1, x3, x4, x5, x6, x7, x48 => if x48 = true then (some false) else (if 0 ≤ x6 then (if x6 < (x4.length : Int) then (if 0 ≤ x7 then (if x7 < ((rd_L5 x4 x6).length : Int) then (if (rd (rd_L5 x4 x6) x7) = x5 then (sennitlaw02_InternGaps.l1 k x3 x4 (wrap64 (x5 + 1)) x6 (wrap64 (x7 + 1))) else (sennitlaw02_InternGaps.l1 k x3 x4 x5 x6 (wrap64 (x7 + 1)))) else (none)) else (none)) else (none)) else (none))
end
def sennitlaw02_InternGaps.f (k : Nat) (l0 : List (List ByteArray)) : Option (Bool) := (sennitlaw02_awake.f k).bind fun t309 => ((sennitlaw02_few.f k l0).bind fun t310 => (if t310 = true then ((intern_All.f k l0).bind fun t311 => (sennitlaw02_InternGaps.l0 k t309 t311 0 0)) else (some t309)))
theorem sennitlaw02_InternGaps.mono_l : ∀ k, (∀ y0 y1 y2 y3, LeO (sennitlaw02_InternGaps.l0 k y0 y1 y2 y3) (sennitlaw02_InternGaps.l0 (k + 1) y0 y1 y2 y3)) ∧ (∀ y0 y1 y2 y3 y4, LeO (sennitlaw02_InternGaps.l1 k y0 y1 y2 y3 y4) (sennitlaw02_InternGaps.l1 (k + 1) y0 y1 y2 y3 y4)) ∧ (∀ y0 y1 y2 y3 y4 y5, LeO (sennitlaw02_InternGaps.j2 k y0 y1 y2 y3 y4 y5) (sennitlaw02_InternGaps.j2 (k + 1) y0 y1 y2 y3 y4 y5))
  | 0 => ⟨fun _ _ _ _ r h => by simp [sennitlaw02_InternGaps.l0] at h, fun _ _ _ _ _ r h => by simp [sennitlaw02_InternGaps.l1] at h, fun _ _ _ _ _ _ r h => by simp [sennitlaw02_InternGaps.j2] at h⟩
  | k + 1 => by
    obtain ⟨ih0, ih1, ih2⟩ := sennitlaw02_InternGaps.mono_l k
    refine ⟨?_, ?_, ?_⟩
    · intro y0 y1 y2 y3
      unfold sennitlaw02_InternGaps.l0
      repeat' first
      | (with_reducible exact ih0 _ _ _ _)
      | (with_reducible exact ih1 _ _ _ _ _)
      | (with_reducible exact ih2 _ _ _ _ _ _)
      | (with_reducible exact intern_All.mono _ _)
      | (with_reducible exact sennitlaw02_awake.mono _)
      | (with_reducible exact sennitlaw02_few.mono _ _)
      | (with_reducible exact LeO.refl _)
      | (with_reducible exact LeO.none _)
      | (with_reducible refine LeO.ite ?_ ?_)
      | (with_reducible refine LeO.bind ?_ (fun _ => ?_))
      | exact ih0 _ _ _ _
      | exact ih1 _ _ _ _ _
      | exact ih2 _ _ _ _ _ _
      | exact intern_All.mono _ _
      | exact sennitlaw02_awake.mono _
      | exact sennitlaw02_few.mono _ _
      | exact LeO.none _
      | refine LeO.ite ?_ ?_
      | refine LeO.bind ?_ (fun _ => ?_)
    · intro y0 y1 y2 y3 y4
      unfold sennitlaw02_InternGaps.l1
      repeat' first
      | (with_reducible exact ih0 _ _ _ _)
      | (with_reducible exact ih1 _ _ _ _ _)
      | (with_reducible exact ih2 _ _ _ _ _ _)
      | (with_reducible exact intern_All.mono _ _)
      | (with_reducible exact sennitlaw02_awake.mono _)
      | (with_reducible exact sennitlaw02_few.mono _ _)
      | (with_reducible exact LeO.refl _)
      | (with_reducible exact LeO.none _)
      | (with_reducible refine LeO.ite ?_ ?_)
      | (with_reducible refine LeO.bind ?_ (fun _ => ?_))
      | exact ih0 _ _ _ _
      | exact ih1 _ _ _ _ _
      | exact ih2 _ _ _ _ _ _
      | exact intern_All.mono _ _
      | exact sennitlaw02_awake.mono _
      | exact sennitlaw02_few.mono _ _
      | exact LeO.none _
      | refine LeO.ite ?_ ?_
      | refine LeO.bind ?_ (fun _ => ?_)
    · intro y0 y1 y2 y3 y4 y5
      unfold sennitlaw02_InternGaps.j2
      repeat' first
      | (with_reducible exact ih0 _ _ _ _)
      | (with_reducible exact ih1 _ _ _ _ _)
      | (with_reducible exact ih2 _ _ _ _ _ _)
      | (with_reducible exact intern_All.mono _ _)
      | (with_reducible exact sennitlaw02_awake.mono _)
      | (with_reducible exact sennitlaw02_few.mono _ _)
      | (with_reducible exact LeO.refl _)
      | (with_reducible exact LeO.none _)
      | (with_reducible refine LeO.ite ?_ ?_)
      | (with_reducible refine LeO.bind ?_ (fun _ => ?_))
      | exact ih0 _ _ _ _
      | exact ih1 _ _ _ _ _
      | exact ih2 _ _ _ _ _ _
      | exact intern_All.mono _ _
      | exact sennitlaw02_awake.mono _
      | exact sennitlaw02_few.mono _ _
      | exact LeO.none _
      | refine LeO.ite ?_ ?_
      | refine LeO.bind ?_ (fun _ => ?_)
theorem sennitlaw02_InternGaps.mono : ∀ a0 k, LeO (sennitlaw02_InternGaps.f k a0) (sennitlaw02_InternGaps.f (k + 1) a0) := by
  intro a0 k
  obtain ⟨ih0, ih1, ih2⟩ := sennitlaw02_InternGaps.mono_l k
  unfold sennitlaw02_InternGaps.f
  repeat' first
      | (with_reducible exact ih0 _ _ _ _)
      | (with_reducible exact ih1 _ _ _ _ _)
      | (with_reducible exact ih2 _ _ _ _ _ _)
      | (with_reducible exact intern_All.mono _ _)
      | (with_reducible exact sennitlaw02_awake.mono _)
      | (with_reducible exact sennitlaw02_few.mono _ _)
      | (with_reducible exact LeO.refl _)
      | (with_reducible exact LeO.none _)
      | (with_reducible refine LeO.ite ?_ ?_)
      | (with_reducible refine LeO.bind ?_ (fun _ => ?_))
      | exact ih0 _ _ _ _
      | exact ih1 _ _ _ _ _
      | exact ih2 _ _ _ _ _ _
      | exact intern_All.mono _ _
      | exact sennitlaw02_awake.mono _
      | exact sennitlaw02_few.mono _ _
      | exact LeO.none _
      | refine LeO.ite ?_ ?_
      | refine LeO.bind ?_ (fun _ => ?_)
set_option maxHeartbeats 8000000 in
set_option maxRecDepth 100000 in
theorem sennitlaw02_InternGaps.calls (k : Nat) (A0 : Option Addr) (c0 : Nat) (l0 : List (List ByteArray)) (r : Bool) (w : World) (hr0 : Kd.C (Kd.slice 9 Kd.string) w A0 l0.length l0) (hc0 : l0.length ≤ c0) (h : sennitlaw02_InternGaps.f k l0 = some r) :
    Calls Try.prog 11 #[.slice A0 l0.length c0] w fun e w' => e = .returned (.bool r) ∧ Below w.heap.size w w' := by
  have HR0 := Aside0.mk hr0
  have HC0 := Aside0.mk hc0
  clear hr0 hc0
  have HB := Aside0.mk (Below.refl w.heap.size w)
  have H : ((sennitlaw02_awake.f k).bind fun t309 => ((sennitlaw02_few.f k l0).bind fun t310 => (if t310 = true then ((intern_All.f k l0).bind fun t311 => (sennitlaw02_InternGaps.l0 k t309 t311 0 0)) else (some t309)))) = some r := h
  clear h
  replace H := Option.bind_eq_some_iff.mp H
  obtain ⟨t309, A20, H⟩ := H
  replace H : ((sennitlaw02_few.f k l0).bind fun t310 => (if t310 = true then ((intern_All.f k l0).bind fun t311 => (sennitlaw02_InternGaps.l0 k t309 t311 0 0)) else (some t309))) = some r := H
  have A2 := Aside0.mk A20
  clear A20
  replace H := Option.bind_eq_some_iff.mp H
  obtain ⟨t310, A30, H⟩ := H
  replace H : (if t310 = true then ((intern_All.f k l0).bind fun t311 => (sennitlaw02_InternGaps.l0 k t309 t311 0 0)) else (some t309)) = some r := H
  have A3 := Aside0.mk A30
  clear A30
  by_cases c4 : t310 = true
  · subst c4
    have H1 : ((intern_All.f k l0).bind fun t311 => (sennitlaw02_InternGaps.l0 k t309 t311 0 0)) = some r := by rw [if_pos rfl] at H; exact H
    clear H
    have H := H1
    clear H1
    replace H := Option.bind_eq_some_iff.mp H
    obtain ⟨t311, A50, H⟩ := H
    replace H : (sennitlaw02_InternGaps.l0 k t309 t311 0 0) = some r := H
    have A5 := Aside0.mk A50
    clear A50
    have H' := Aside0.mk H
    clear H
    go_enter Try.func11, Try.ntmps11
    go_wp2_with (first | ((with_reducible refine gate_callee (f := 28) rfl ?_); refine goesL_ (some 8) rfl rfl Try.func28 (by kernel_rfl) rfl #[] rfl (by (try simp only [List.map_toArray, List.map_cons, List.map_nil]); first | done | rfl | (simp only [List.length_drop, List.length_take]; rfl)) ?_; (with_reducible refine (sennitlaw02_awake.calls k  t309 _ A2.out).mono ?_); rintro e w6 ⟨rfl, hb⟩; refine ⟨_, rfl, ?_⟩; have n0_ := Aside0.mk (below_step (by repeat (first | (with_reducible first | exact HB.out | apply below_alloc | apply pw_below_drewN | apply below_drew1) | exact HB.out)) hb); clear HB; have HB := n0_; clear n0_; (try clear hb); (try clear hb2); (try clear hk); (try clear hi)) | ((with_reducible refine gate_callee (f := 34) rfl ?_); refine goesL_ (some 10) rfl rfl Try.func34 (by kernel_rfl) rfl #[.slice A0 l0.length c0] rfl (by (try simp only [List.map_toArray, List.map_cons, List.map_nil]); first | done | rfl | (simp only [List.length_drop, List.length_take]; rfl)) ?_; (with_reducible refine (sennitlaw02_few.calls k _ _ l0 true _ ?side1 ?side2 A3.out).mono ?_); (case side1 => repeat (first | exact (Kd.C_below HR0.out HB.out) | (with_reducible refine Kd.C_alloc ?_ _) | (with_reducible refine Kd.C_drewN ?_ _) | (with_reducible refine Kd.C_drew ?_))); (case side2 => exact HC0.out); rintro e w' ⟨rfl, ⟨nd, rfl⟩⟩; refine ⟨_, rfl, ?_⟩) | ((with_reducible refine gate_callee (f := 35) rfl ?_); refine goesL_ (some 14) rfl rfl Try.func35 (by kernel_rfl) rfl #[.slice A0 l0.length c0] rfl (by (try simp only [List.map_toArray, List.map_cons, List.map_nil]); first | done | rfl | (simp only [List.length_drop, List.length_take]; rfl)) ?_; (with_reducible refine (intern_All.calls k _ _ l0 t311 _ ?side1 ?side2 A5.out).mono ?_); (case side1 => repeat (first | exact (Kd.C_below HR0.out (by repeat (first | (with_reducible first | exact HB.out | apply below_alloc | apply pw_below_drewN | apply below_drew1) | exact HB.out))) | (with_reducible refine Kd.C_alloc ?_ _) | (with_reducible refine Kd.C_drewN ?_ _) | (with_reducible refine Kd.C_drew ?_))); (case side2 => exact HC0.out); rintro e w7 ⟨v312, rfl, ho0, hb⟩; refine ⟨_, rfl, ?_⟩; have n0_ := Aside0.mk (Kd.V_lower (Kd.V_mono (ok' := fun k_ => True) ho0 (fun k_ hk_ => trivial)) (below_size (by repeat (first | (with_reducible first | exact HB.out | apply below_alloc | apply pw_below_drewN | apply below_drew1) | exact HB.out)))); have n1_ := Aside0.mk (below_step (by repeat (first | (with_reducible first | exact HB.out | apply below_alloc | apply pw_below_drewN | apply below_drew1) | exact HB.out)) hb); clear HB; have HO313 := n0_; have HB := n1_; clear n0_ n1_; (try clear hb); (try clear hb2); (try clear hk); (try clear hi); (try clear ho0)))
    go_loopg [5, 6] k (fun kq v5 v6 w' => ∃ (x5_1 : Int) (x6_1 : Int), v5 = .int .i64 x5_1 ∧ v6 = .int .i64 x6_1 ∧ Aside0 (sennitlaw02_InternGaps.l0 kq t309 t311 x5_1 x6_1 = some r) ∧ Aside0 (kq ≤ k) ∧ Aside0 (Kd.V (Kd.slice 3 (Kd.int .i64)) 44 w' w.heap.size (fun _ => True) v312 t311) ∧ Aside0 (Below w.heap.size w w'))
    case atStart => exact ⟨(0), (0), (by first | rfl | (simp; done) | (simp [*]; done)), (by first | rfl | (simp; done) | (simp [*]; done)), H', ⟨Nat.le_refl _⟩, ⟨by (with_reducible repeat (first | apply Kd.V_alloc | apply Kd.V_drewN | apply Kd.V_drew)); exact HO313.out⟩, ⟨by repeat (first | (with_reducible first | exact HB.out | apply below_alloc | apply pw_below_drewN | apply below_drew1) | exact HB.out)⟩⟩
    case round =>
      clear H'
      try clear c1
      try clear c2
      try clear p2
      try clear c3
      try clear c4
      obtain ⟨x5_1, x6_1, rfl, rfl, HA, HK1, HO_4, HB⟩ := hrel
      cases gk with
      | zero => exact absurd HA.out (by simp [sennitlaw02_InternGaps.l0])
      | succ k1 =>
        have H := HA.out
        clear HA
        simp only [sennitlaw02_InternGaps.l0] at H
        by_cases c8 : x6_1 < (t311.length : Int)
        · rw [if_pos c8] at H
          have c8b0 : decide (x6_1 < (t311.length : Int)) = true := decide_eq_true c8
          clear c8
          have H' := Aside0.mk H
          clear H
          obtain ⟨Ao9, co9, eo9⟩ := Kd.V_slice HO_4.out
          subst eo9
          go_wp2
          go_loopg [5, 7] k1 (fun kq v5 v7 w' => ∃ (x5_2 : Int) (x7_2 : Int), v5 = .int .i64 x5_2 ∧ v7 = .int .i64 x7_2 ∧ Aside0 (sennitlaw02_InternGaps.l1 kq t309 t311 x5_2 x6_1 x7_2 = some r) ∧ Aside0 (kq ≤ k1) ∧ Aside0 (Kd.V (Kd.slice 3 (Kd.int .i64)) 44 w' w.heap.size (fun _ => True) (.slice Ao9 t311.length co9) t311) ∧ Aside0 (Below w.heap.size w w'))
          case atStart => exact ⟨(x5_1), (0), (by first | rfl | (simp; done) | (simp [*]; done)), (by first | rfl | (simp; done) | (simp [*]; done)), H', ⟨Nat.le_refl _⟩, ⟨by (with_reducible repeat (first | apply Kd.V_alloc | apply Kd.V_drewN | apply Kd.V_drew)); exact HO_4.out⟩, ⟨by repeat (first | (with_reducible first | exact HB.out | apply below_alloc | apply pw_below_drewN | apply below_drew1) | exact HB.out)⟩⟩
          case round =>
            clear H'
            try clear c1
            try clear c2
            try clear p2
            try clear c3
            try clear c4
            try clear c8
            try clear c8b0
            try clear p2
            obtain ⟨x5_2, x7_2, rfl, rfl, HA, HK2, HO_4, HB⟩ := hrel
            cases gk with
            | zero => exact absurd HA.out (by simp [sennitlaw02_InternGaps.l1])
            | succ k2 =>
              have H := HA.out
              clear HA
              simp only [sennitlaw02_InternGaps.l1] at H
              by_cases c10 : 0 ≤ x6_1
              · rw [if_pos c10] at H
                have c10b0 : decide (0 ≤ x6_1) = true := decide_eq_true c10
                clear c10
                by_cases c11 : x6_1 < (t311.length : Int)
                · rw [if_pos c11] at H
                  have c11b0 : decide (x6_1 < (t311.length : Int)) = true := decide_eq_true c11
                  clear c11
                  by_cases c12 : x7_2 < ((rd_L5 t311 x6_1).length : Int)
                  · rw [if_pos c12] at H
                    have c12b0 : decide (x7_2 < ((rd_L5 t311 x6_1).length : Int)) = true := decide_eq_true c12
                    clear c12
                    have HC13 := Aside0.mk H
                    clear H
                    have p314 : 0 ≤ (x6_1 : Int) := of_decide_eq_true (by first | (with_reducible assumption) | assumption)
                    have q314 : x6_1 < (t311.length : Int) := of_decide_eq_true (by first | (with_reducible assumption) | assumption)
                    obtain ⟨ad314, A314_0, c314_0, e314, hx314_0, hl314_0, hi314_0⟩ := at_L5 (Kd.V_reads' HO_4.out).2.2 x6_1 p314 q314
                    cases e314
                    obtain ⟨ce314, hce314, hMe314, hcc314⟩ := Kd.V_get HO_4.out [] x6_1 p314 (by first | exact q314 | exact of_decide_eq_true (by first | (with_reducible assumption) | assumption) | (have e_ := (Kd.V_reads' HO_4.out).1; omega))
                    obtain ⟨ua314_0, uc314_0, rfl, ul314_0, ge314_0⟩ := Kd.FK_slice_open hMe314
                    have hv314_0 := hcc314 0 _ rfl
                    rw [Nat.add_zero, show ((Kd.slice 3 (Kd.int .i64))).sz = 1 from rfl, Nat.mul_one] at hv314_0
                    replace hv314_0 := Option.some.inj (hv314_0.symm.trans hx314_0)
                    injection hv314_0 with hva_ hvn_ hvc_
                    rw [hva_] at ge314_0
                    rw [hvc_] at ul314_0
                    have HL314_0 := Aside0.mk (show Kd.V (Kd.int .i64) 3 _ w.heap.size _ _ (rd_L5 t311 x6_1) from Kd.V_mk ul314_0 ge314_0)
                    clear hva_ hvn_ hvc_ ge314_0 ul314_0
                    clear hcc314 hce314
                    have HR314_0 := Aside0.mk hi314_0
                    have HC314_0 := Aside0.mk hl314_0
                    clear hi314_0 hl314_0
                    replace p314 := eq_true p314
                    replace q314 := eq_true q314
                    go_upto_region 12 with (fail)
                    go_cut [48] (fun v48 wc => ∃ (kq : Nat) (x48_12 : Bool), v48 = .bool x48_12 ∧ Aside0 (sennitlaw02_InternGaps.j2 kq t309 t311 x5_2 x6_1 x7_2 x48_12 = some r) ∧ Aside0 (kq ≤ k2) ∧ Aside0 (Kd.V (Kd.slice 3 (Kd.int .i64)) 44 wc w.heap.size (fun _ => True) (.slice (some ad314) t311.length co9) t311) ∧ Aside0 (Kd.C (Kd.int .i64) wc A314_0 (rd_L5 t311 x6_1).length (rd_L5 t311 x6_1)) ∧ Aside0 (Below w.heap.size w wc))
                    case first =>
                      have H := HC13.out
                      clear HC13
                      by_cases c14 : 0 ≤ x7_2
                      · rw [if_pos c14] at H
                        have c14b0 : decide (0 ≤ x7_2) = true := decide_eq_true c14
                        clear c14
                        (first | rw [c14b0] | (simp only [i64_w, i32_w]; rw [c14b0]) | skip)
                        by_cases c15 : (rd (rd_L5 t311 x6_1) x7_2) < 0
                        · rw [if_pos c15] at H
                          have c15b0 : decide ((rd (rd_L5 t311 x6_1) x7_2) < 0) = true := decide_eq_true c15
                          clear c15
                          have H' := Aside0.mk H
                          clear H
                          have p315 : 0 ≤ (x6_1 : Int) := of_decide_eq_true (by first | (with_reducible assumption) | assumption)
                          have q315 : x6_1 < (t311.length : Int) := of_decide_eq_true (by first | (with_reducible assumption) | assumption)
                          obtain ⟨ad315, A315_0, c315_0, e315, hx315_0, hl315_0, hi315_0⟩ := at_L5 (Kd.V_reads' HO_4.out).2.2 x6_1 p315 q315
                          obtain rfl : ad314 = ad315 := (by injection e315)
                          try (have ea_ := Option.some.inj (hx314_0.symm.trans hx315_0); injection ea_ with ea_ en_ ec_; subst ea_; subst ec_; clear en_)
                          obtain ⟨ce315, hce315, hMe315, hcc315⟩ := Kd.V_get HO_4.out [] x6_1 p315 (by first | exact q315 | exact of_decide_eq_true (by first | (with_reducible assumption) | assumption) | (have e_ := (Kd.V_reads' HO_4.out).1; omega))
                          obtain ⟨ua315_0, uc315_0, rfl, ul315_0, ge315_0⟩ := Kd.FK_slice_open hMe315
                          have hv315_0 := hcc315 0 _ rfl
                          rw [Nat.add_zero, show ((Kd.slice 3 (Kd.int .i64))).sz = 1 from rfl, Nat.mul_one] at hv315_0
                          replace hv315_0 := Option.some.inj (hv315_0.symm.trans hx315_0)
                          injection hv315_0 with hva_ hvn_ hvc_
                          rw [hva_] at ge315_0
                          rw [hvc_] at ul315_0
                          have HL315_0 := Aside0.mk (show Kd.V (Kd.int .i64) 3 _ w.heap.size _ _ (rd_L5 t311 x6_1) from Kd.V_mk ul315_0 ge315_0)
                          clear hva_ hvn_ hvc_ ge315_0 ul315_0
                          clear hcc315 hce315
                          have HR315_0 := Aside0.mk hi315_0
                          have HC315_0 := Aside0.mk hl315_0
                          clear hi315_0 hl315_0
                          replace p315 := eq_true p315
                          replace q315 := eq_true q315
                          have p316 : 0 ≤ (x7_2 : Int) := of_decide_eq_true (by first | (with_reducible assumption) | assumption)
                          have q316 : x7_2 < ((rd_L5 t311 x6_1).length : Int) := of_decide_eq_true (by first | (with_reducible assumption) | assumption)
                          obtain ⟨ad316, e316, hx316_0⟩ := Kd.at_int (by repeat (first | (with_reducible exact HR315_0.out) | (with_reducible refine Kd.C_alloc ?_ _) | (with_reducible refine Kd.C_drewN ?_ _) | (with_reducible refine Kd.C_drew ?_) | exact HR315_0.out)) x7_2 p316 q316
                          cases e316
                          replace p316 := eq_true p316
                          replace q316 := eq_true q316
                          go_wp2
                          go_meet
                          case rel => exact ⟨_, (true), (by first | rfl | (simp; done) | (simp [*]; done)), H', ⟨by have := HK1.out; have := HK2.out; first | omega | exact Nat.le_refl _⟩, ⟨by (with_reducible repeat (first | apply Kd.V_alloc | apply Kd.V_drewN | apply Kd.V_drew)); exact HO_4.out⟩, ⟨by repeat (first | (with_reducible exact HR314_0.out) | (with_reducible refine Kd.C_alloc ?_ _) | (with_reducible refine Kd.C_drewN ?_ _) | (with_reducible refine Kd.C_drew ?_) | exact HR314_0.out)⟩, ⟨by repeat (first | (with_reducible first | exact HB.out | apply below_alloc | apply pw_below_drewN | apply below_drew1) | exact HB.out)⟩⟩
                        · rw [if_neg c15] at H
                          have c15b0 : decide ((rd (rd_L5 t311 x6_1) x7_2) < 0) = false := decide_eq_false c15
                          clear c15
                          have H' := Aside0.mk H
                          clear H
                          have p315 : 0 ≤ (x6_1 : Int) := of_decide_eq_true (by first | (with_reducible assumption) | assumption)
                          have q315 : x6_1 < (t311.length : Int) := of_decide_eq_true (by first | (with_reducible assumption) | assumption)
                          obtain ⟨ad315, A315_0, c315_0, e315, hx315_0, hl315_0, hi315_0⟩ := at_L5 (Kd.V_reads' HO_4.out).2.2 x6_1 p315 q315
                          obtain rfl : ad314 = ad315 := (by injection e315)
                          try (have ea_ := Option.some.inj (hx314_0.symm.trans hx315_0); injection ea_ with ea_ en_ ec_; subst ea_; subst ec_; clear en_)
                          obtain ⟨ce315, hce315, hMe315, hcc315⟩ := Kd.V_get HO_4.out [] x6_1 p315 (by first | exact q315 | exact of_decide_eq_true (by first | (with_reducible assumption) | assumption) | (have e_ := (Kd.V_reads' HO_4.out).1; omega))
                          obtain ⟨ua315_0, uc315_0, rfl, ul315_0, ge315_0⟩ := Kd.FK_slice_open hMe315
                          have hv315_0 := hcc315 0 _ rfl
                          rw [Nat.add_zero, show ((Kd.slice 3 (Kd.int .i64))).sz = 1 from rfl, Nat.mul_one] at hv315_0
                          replace hv315_0 := Option.some.inj (hv315_0.symm.trans hx315_0)
                          injection hv315_0 with hva_ hvn_ hvc_
                          rw [hva_] at ge315_0
                          rw [hvc_] at ul315_0
                          have HL315_0 := Aside0.mk (show Kd.V (Kd.int .i64) 3 _ w.heap.size _ _ (rd_L5 t311 x6_1) from Kd.V_mk ul315_0 ge315_0)
                          clear hva_ hvn_ hvc_ ge315_0 ul315_0
                          clear hcc315 hce315
                          have HR315_0 := Aside0.mk hi315_0
                          have HC315_0 := Aside0.mk hl315_0
                          clear hi315_0 hl315_0
                          replace p315 := eq_true p315
                          replace q315 := eq_true q315
                          have p316 : 0 ≤ (x7_2 : Int) := of_decide_eq_true (by first | (with_reducible assumption) | assumption)
                          have q316 : x7_2 < ((rd_L5 t311 x6_1).length : Int) := of_decide_eq_true (by first | (with_reducible assumption) | assumption)
                          obtain ⟨ad316, e316, hx316_0⟩ := Kd.at_int (by repeat (first | (with_reducible exact HR315_0.out) | (with_reducible refine Kd.C_alloc ?_ _) | (with_reducible refine Kd.C_drewN ?_ _) | (with_reducible refine Kd.C_drew ?_) | exact HR315_0.out)) x7_2 p316 q316
                          cases e316
                          replace p316 := eq_true p316
                          replace q316 := eq_true q316
                          have p317 : 0 ≤ (x6_1 : Int) := of_decide_eq_true (by first | (with_reducible assumption) | assumption)
                          have q317 : x6_1 < (t311.length : Int) := of_decide_eq_true (by first | (with_reducible assumption) | assumption)
                          obtain ⟨ad317, A317_0, c317_0, e317, hx317_0, hl317_0, hi317_0⟩ := at_L5 (Kd.V_reads' HO_4.out).2.2 x6_1 p317 q317
                          obtain rfl : ad314 = ad317 := (by injection e317)
                          try (have ea_ := Option.some.inj (hx314_0.symm.trans hx317_0); injection ea_ with ea_ en_ ec_; subst ea_; subst ec_; clear en_)
                          obtain ⟨ce317, hce317, hMe317, hcc317⟩ := Kd.V_get HO_4.out [] x6_1 p317 (by first | exact q317 | exact of_decide_eq_true (by first | (with_reducible assumption) | assumption) | (have e_ := (Kd.V_reads' HO_4.out).1; omega))
                          obtain ⟨ua317_0, uc317_0, rfl, ul317_0, ge317_0⟩ := Kd.FK_slice_open hMe317
                          have hv317_0 := hcc317 0 _ rfl
                          rw [Nat.add_zero, show ((Kd.slice 3 (Kd.int .i64))).sz = 1 from rfl, Nat.mul_one] at hv317_0
                          replace hv317_0 := Option.some.inj (hv317_0.symm.trans hx317_0)
                          injection hv317_0 with hva_ hvn_ hvc_
                          rw [hva_] at ge317_0
                          rw [hvc_] at ul317_0
                          have HL317_0 := Aside0.mk (show Kd.V (Kd.int .i64) 3 _ w.heap.size _ _ (rd_L5 t311 x6_1) from Kd.V_mk ul317_0 ge317_0)
                          clear hva_ hvn_ hvc_ ge317_0 ul317_0
                          clear hcc317 hce317
                          have HR317_0 := Aside0.mk hi317_0
                          have HC317_0 := Aside0.mk hl317_0
                          clear hi317_0 hl317_0
                          replace p317 := eq_true p317
                          replace q317 := eq_true q317
                          have ea_ := Option.some.inj (hx315_0.symm.trans hx317_0)
                          injection ea_ with ea_ en_ ec_
                          first | subst ea_ | clear ea_
                          first | subst ec_ | clear ec_
                          clear en_
                          have p318 : 0 ≤ (x7_2 : Int) := of_decide_eq_true (by first | (with_reducible assumption) | assumption)
                          have q318 : x7_2 < ((rd_L5 t311 x6_1).length : Int) := of_decide_eq_true (by first | (with_reducible assumption) | assumption)
                          obtain ⟨ad318, e318, hx318_0⟩ := Kd.at_int (by repeat (first | (with_reducible exact HR317_0.out) | (with_reducible refine Kd.C_alloc ?_ _) | (with_reducible refine Kd.C_drewN ?_ _) | (with_reducible refine Kd.C_drew ?_) | exact HR317_0.out)) x7_2 p318 q318
                          cases e318
                          replace p318 := eq_true p318
                          replace q318 := eq_true q318
                          go_wp2
                          go_meet
                          case rel => exact ⟨_, (decide ((rd (rd_L5 t311 x6_1) x7_2) > x5_2)), (by first | rfl | (simp; done) | (simp [*]; done)), H', ⟨by have := HK1.out; have := HK2.out; first | omega | exact Nat.le_refl _⟩, ⟨by (with_reducible repeat (first | apply Kd.V_alloc | apply Kd.V_drewN | apply Kd.V_drew)); exact HO_4.out⟩, ⟨by repeat (first | (with_reducible exact HR314_0.out) | (with_reducible refine Kd.C_alloc ?_ _) | (with_reducible refine Kd.C_drewN ?_ _) | (with_reducible refine Kd.C_drew ?_) | exact HR314_0.out)⟩, ⟨by repeat (first | (with_reducible first | exact HB.out | apply below_alloc | apply pw_below_drewN | apply below_drew1) | exact HB.out)⟩⟩
                      · rw [if_neg c14] at H
                        exact absurd H (by simp)
                    case rest =>
                      clear HC13
                      try clear c1
                      try clear c2
                      try clear p2
                      try clear c3
                      try clear p3
                      try clear q3
                      try clear hx3
                      try clear c4
                      try clear c8
                      try clear c8b0
                      try clear c10
                      try clear c10b0
                      try clear c11
                      try clear c11b0
                      try clear c12
                      try clear c12b0
                      try clear c14
                      try clear c14b0
                      try clear c15
                      try clear c15b0
                      try clear hx314_0
                      try clear hx315_0
                      try clear hx316_0
                      try clear hx317_0
                      try clear hx318_0
                      try clear p2
                      try clear p314
                      try clear p315
                      try clear p316
                      try clear p317
                      try clear p318
                      try clear q314
                      try clear q315
                      try clear q316
                      try clear q317
                      try clear q318
                      obtain ⟨kq, x48_12, rfl, HA, HJ12, HO_4, HR314_0, HB⟩ := hcut
                      cases kq with
                      | zero => exact absurd HA.out (by simp [sennitlaw02_InternGaps.j2])
                      | succ kj12 =>
                        have H := HA.out
                        clear HA
                        simp only [sennitlaw02_InternGaps.j2] at H
                        by_cases c16 : x48_12 = true
                        · subst c16
                          have H1 : (some false) = some r := by rw [if_pos rfl] at H; exact H
                          clear H
                          have H := H1
                          clear H1
                          obtain rfl := Option.some.inj H
                          go_wp2
                          go_ret
                          exact ⟨by first | rfl | (simp [errW_none, errW_some] <;> rfl) | (simp [*, errW_none, errW_some] <;> rfl), by repeat (first | (with_reducible first | exact HB.out | apply below_alloc | apply pw_below_drewN | apply below_drew1) | exact HB.out)⟩
                        · replace c16 := Bool.eq_false_iff.mpr c16
                          subst c16
                          have H1 : (if 0 ≤ x6_1 then (if x6_1 < (t311.length : Int) then (if 0 ≤ x7_2 then (if x7_2 < ((rd_L5 t311 x6_1).length : Int) then (if (rd (rd_L5 t311 x6_1) x7_2) = x5_2 then (sennitlaw02_InternGaps.l1 kj12 t309 t311 (wrap64 (x5_2 + 1)) x6_1 (wrap64 (x7_2 + 1))) else (sennitlaw02_InternGaps.l1 kj12 t309 t311 x5_2 x6_1 (wrap64 (x7_2 + 1)))) else (none)) else (none)) else (none)) else (none)) = some r := by rw [if_neg (show ¬ (false = true) by decide)] at H; exact H
                          clear H
                          have H := H1
                          clear H1
                          by_cases c17 : 0 ≤ x6_1
                          · rw [if_pos c17] at H
                            have c17b0 : decide (0 ≤ x6_1) = true := decide_eq_true c17
                            clear c17
                            by_cases c18 : x6_1 < (t311.length : Int)
                            · rw [if_pos c18] at H
                              have c18b0 : decide (x6_1 < (t311.length : Int)) = true := decide_eq_true c18
                              clear c18
                              by_cases c19 : 0 ≤ x7_2
                              · rw [if_pos c19] at H
                                have c19b0 : decide (0 ≤ x7_2) = true := decide_eq_true c19
                                clear c19
                                by_cases c20 : x7_2 < ((rd_L5 t311 x6_1).length : Int)
                                · rw [if_pos c20] at H
                                  have c20b0 : decide (x7_2 < ((rd_L5 t311 x6_1).length : Int)) = true := decide_eq_true c20
                                  clear c20
                                  by_cases c21 : (rd (rd_L5 t311 x6_1) x7_2) = x5_2
                                  · rw [if_pos c21] at H
                                    have c21b0 : ((rd (rd_L5 t311 x6_1) x7_2) == x5_2) = true := beq_iff_eq.mpr c21
                                    have c21b1 : ((rd (rd_L5 t311 x6_1) x7_2) != x5_2) = false := bne_eq_false_iff_eq.mpr c21
                                    clear c21
                                    have H' := Aside0.mk H
                                    clear H
                                    have p319 : 0 ≤ (x6_1 : Int) := of_decide_eq_true (by first | (with_reducible assumption) | assumption)
                                    have q319 : x6_1 < (t311.length : Int) := of_decide_eq_true (by first | (with_reducible assumption) | assumption)
                                    obtain ⟨ad319, A319_0, c319_0, e319, hx319_0, hl319_0, hi319_0⟩ := at_L5 (Kd.V_reads' HO_4.out).2.2 x6_1 p319 q319
                                    obtain rfl : ad314 = ad319 := (by injection e319)
                                    try (have ea_ := Option.some.inj (hx314_0.symm.trans hx319_0); injection ea_ with ea_ en_ ec_; subst ea_; subst ec_; clear en_)
                                    obtain ⟨ce319, hce319, hMe319, hcc319⟩ := Kd.V_get HO_4.out [] x6_1 p319 (by first | exact q319 | exact of_decide_eq_true (by first | (with_reducible assumption) | assumption) | (have e_ := (Kd.V_reads' HO_4.out).1; omega))
                                    obtain ⟨ua319_0, uc319_0, rfl, ul319_0, ge319_0⟩ := Kd.FK_slice_open hMe319
                                    have hv319_0 := hcc319 0 _ rfl
                                    rw [Nat.add_zero, show ((Kd.slice 3 (Kd.int .i64))).sz = 1 from rfl, Nat.mul_one] at hv319_0
                                    replace hv319_0 := Option.some.inj (hv319_0.symm.trans hx319_0)
                                    injection hv319_0 with hva_ hvn_ hvc_
                                    rw [hva_] at ge319_0
                                    rw [hvc_] at ul319_0
                                    have HL319_0 := Aside0.mk (show Kd.V (Kd.int .i64) 3 _ w.heap.size _ _ (rd_L5 t311 x6_1) from Kd.V_mk ul319_0 ge319_0)
                                    clear hva_ hvn_ hvc_ ge319_0 ul319_0
                                    clear hcc319 hce319
                                    have HR319_0 := Aside0.mk hi319_0
                                    have HC319_0 := Aside0.mk hl319_0
                                    clear hi319_0 hl319_0
                                    replace p319 := eq_true p319
                                    replace q319 := eq_true q319
                                    have p320 : 0 ≤ (x7_2 : Int) := of_decide_eq_true (by first | (with_reducible assumption) | assumption)
                                    have q320 : x7_2 < ((rd_L5 t311 x6_1).length : Int) := of_decide_eq_true (by first | (with_reducible assumption) | assumption)
                                    obtain ⟨ad320, e320, hx320_0⟩ := Kd.at_int (by repeat (first | (with_reducible exact HR319_0.out) | (with_reducible refine Kd.C_alloc ?_ _) | (with_reducible refine Kd.C_drewN ?_ _) | (with_reducible refine Kd.C_drew ?_) | exact HR319_0.out)) x7_2 p320 q320
                                    cases e320
                                    replace p320 := eq_true p320
                                    replace q320 := eq_true q320
                                    go_wp2
                                    go_roundg kj12
                                    case measure => have := HK1.out; have := HK2.out; have := HJ12.out; omega
                                    case rel => exact ⟨(wrap64 (x5_2 + 1)), (wrap64 (x7_2 + 1)), (by first | rfl | (simp; done) | (simp [*]; done)), (by first | rfl | (simp; done) | (simp [*]; done)), H', ⟨by have := HK1.out; have := HK2.out; have := HJ12.out; omega⟩, ⟨by (with_reducible repeat (first | apply Kd.V_alloc | apply Kd.V_drewN | apply Kd.V_drew)); exact HO_4.out⟩, ⟨by repeat (first | (with_reducible first | exact HB.out | apply below_alloc | apply pw_below_drewN | apply below_drew1) | exact HB.out)⟩⟩
                                  · rw [if_neg c21] at H
                                    have c21b0 : ((rd (rd_L5 t311 x6_1) x7_2) == x5_2) = false := beq_eq_false_iff_ne.mpr c21
                                    have c21b1 : ((rd (rd_L5 t311 x6_1) x7_2) != x5_2) = true := bne_iff_ne.mpr c21
                                    have H' := Aside0.mk H
                                    clear H
                                    have p319 : 0 ≤ (x6_1 : Int) := of_decide_eq_true (by first | (with_reducible assumption) | assumption)
                                    have q319 : x6_1 < (t311.length : Int) := of_decide_eq_true (by first | (with_reducible assumption) | assumption)
                                    obtain ⟨ad319, A319_0, c319_0, e319, hx319_0, hl319_0, hi319_0⟩ := at_L5 (Kd.V_reads' HO_4.out).2.2 x6_1 p319 q319
                                    obtain rfl : ad314 = ad319 := (by injection e319)
                                    try (have ea_ := Option.some.inj (hx314_0.symm.trans hx319_0); injection ea_ with ea_ en_ ec_; subst ea_; subst ec_; clear en_)
                                    obtain ⟨ce319, hce319, hMe319, hcc319⟩ := Kd.V_get HO_4.out [] x6_1 p319 (by first | exact q319 | exact of_decide_eq_true (by first | (with_reducible assumption) | assumption) | (have e_ := (Kd.V_reads' HO_4.out).1; omega))
                                    obtain ⟨ua319_0, uc319_0, rfl, ul319_0, ge319_0⟩ := Kd.FK_slice_open hMe319
                                    have hv319_0 := hcc319 0 _ rfl
                                    rw [Nat.add_zero, show ((Kd.slice 3 (Kd.int .i64))).sz = 1 from rfl, Nat.mul_one] at hv319_0
                                    replace hv319_0 := Option.some.inj (hv319_0.symm.trans hx319_0)
                                    injection hv319_0 with hva_ hvn_ hvc_
                                    rw [hva_] at ge319_0
                                    rw [hvc_] at ul319_0
                                    have HL319_0 := Aside0.mk (show Kd.V (Kd.int .i64) 3 _ w.heap.size _ _ (rd_L5 t311 x6_1) from Kd.V_mk ul319_0 ge319_0)
                                    clear hva_ hvn_ hvc_ ge319_0 ul319_0
                                    clear hcc319 hce319
                                    have HR319_0 := Aside0.mk hi319_0
                                    have HC319_0 := Aside0.mk hl319_0
                                    clear hi319_0 hl319_0
                                    replace p319 := eq_true p319
                                    replace q319 := eq_true q319
                                    have p320 : 0 ≤ (x7_2 : Int) := of_decide_eq_true (by first | (with_reducible assumption) | assumption)
                                    have q320 : x7_2 < ((rd_L5 t311 x6_1).length : Int) := of_decide_eq_true (by first | (with_reducible assumption) | assumption)
                                    obtain ⟨ad320, e320, hx320_0⟩ := Kd.at_int (by repeat (first | (with_reducible exact HR319_0.out) | (with_reducible refine Kd.C_alloc ?_ _) | (with_reducible refine Kd.C_drewN ?_ _) | (with_reducible refine Kd.C_drew ?_) | exact HR319_0.out)) x7_2 p320 q320
                                    cases e320
                                    replace p320 := eq_true p320
                                    replace q320 := eq_true q320
                                    go_wp2
                                    go_roundg kj12
                                    case measure => have := HK1.out; have := HK2.out; have := HJ12.out; omega
                                    case rel => exact ⟨(x5_2), (wrap64 (x7_2 + 1)), (by first | rfl | (simp; done) | (simp [*]; done)), (by first | rfl | (simp; done) | (simp [*]; done)), H', ⟨by have := HK1.out; have := HK2.out; have := HJ12.out; omega⟩, ⟨by (with_reducible repeat (first | apply Kd.V_alloc | apply Kd.V_drewN | apply Kd.V_drew)); exact HO_4.out⟩, ⟨by repeat (first | (with_reducible first | exact HB.out | apply below_alloc | apply pw_below_drewN | apply below_drew1) | exact HB.out)⟩⟩
                                · rw [if_neg c20] at H
                                  exact absurd H (by simp)
                              · rw [if_neg c19] at H
                                exact absurd H (by simp)
                            · rw [if_neg c18] at H
                              exact absurd H (by simp)
                          · rw [if_neg c17] at H
                            exact absurd H (by simp)
                  · rw [if_neg c12] at H
                    have c12b0 : decide (x7_2 < ((rd_L5 t311 x6_1).length : Int)) = false := decide_eq_false c12
                    clear c12
                    have H' := Aside0.mk H
                    clear H
                    have p314 : 0 ≤ (x6_1 : Int) := of_decide_eq_true (by first | (with_reducible assumption) | assumption)
                    have q314 : x6_1 < (t311.length : Int) := of_decide_eq_true (by first | (with_reducible assumption) | assumption)
                    obtain ⟨ad314, A314_0, c314_0, e314, hx314_0, hl314_0, hi314_0⟩ := at_L5 (Kd.V_reads' HO_4.out).2.2 x6_1 p314 q314
                    cases e314
                    obtain ⟨ce314, hce314, hMe314, hcc314⟩ := Kd.V_get HO_4.out [] x6_1 p314 (by first | exact q314 | exact of_decide_eq_true (by first | (with_reducible assumption) | assumption) | (have e_ := (Kd.V_reads' HO_4.out).1; omega))
                    obtain ⟨ua314_0, uc314_0, rfl, ul314_0, ge314_0⟩ := Kd.FK_slice_open hMe314
                    have hv314_0 := hcc314 0 _ rfl
                    rw [Nat.add_zero, show ((Kd.slice 3 (Kd.int .i64))).sz = 1 from rfl, Nat.mul_one] at hv314_0
                    replace hv314_0 := Option.some.inj (hv314_0.symm.trans hx314_0)
                    injection hv314_0 with hva_ hvn_ hvc_
                    rw [hva_] at ge314_0
                    rw [hvc_] at ul314_0
                    have HL314_0 := Aside0.mk (show Kd.V (Kd.int .i64) 3 _ w.heap.size _ _ (rd_L5 t311 x6_1) from Kd.V_mk ul314_0 ge314_0)
                    clear hva_ hvn_ hvc_ ge314_0 ul314_0
                    clear hcc314 hce314
                    have HR314_0 := Aside0.mk hi314_0
                    have HC314_0 := Aside0.mk hl314_0
                    clear hi314_0 hl314_0
                    replace p314 := eq_true p314
                    replace q314 := eq_true q314
                    go_wp2
                    go_roundg k2
                    case measure => have := HK1.out; have := HK2.out; omega
                    case rel => exact ⟨(x5_2), (wrap64 (x6_1 + 1)), (by first | rfl | (simp; done) | (simp [*]; done)), (by first | rfl | (simp; done) | (simp [*]; done)), H', ⟨by have := HK1.out; have := HK2.out; omega⟩, ⟨by (with_reducible repeat (first | apply Kd.V_alloc | apply Kd.V_drewN | apply Kd.V_drew)); exact HO_4.out⟩, ⟨by repeat (first | (with_reducible first | exact HB.out | apply below_alloc | apply pw_below_drewN | apply below_drew1) | exact HB.out)⟩⟩
                · rw [if_neg c11] at H
                  exact absurd H (by simp)
              · rw [if_neg c10] at H
                exact absurd H (by simp)
        · rw [if_neg c8] at H
          have c8b0 : decide (x6_1 < (t311.length : Int)) = false := decide_eq_false c8
          clear c8
          obtain rfl := Option.some.inj H
          obtain ⟨Ao22, co22, eo22⟩ := Kd.V_slice HO_4.out
          subst eo22
          go_wp2
          go_ret
          exact ⟨by first | rfl | (simp [errW_none, errW_some] <;> rfl) | (simp [*, errW_none, errW_some] <;> rfl), by repeat (first | (with_reducible first | exact HB.out | apply below_alloc | apply pw_below_drewN | apply below_drew1) | exact HB.out)⟩
  · replace c4 := Bool.eq_false_iff.mpr c4
    subst c4
    have H1 : (some t309) = some r := by rw [if_neg (show ¬ (false = true) by decide)] at H; exact H
    clear H
    have H := H1
    clear H1
    obtain rfl := Option.some.inj H
    go_enter Try.func11, Try.ntmps11
    go_wp2_with (first | ((with_reducible refine gate_callee (f := 28) rfl ?_); refine goesL_ (some 8) rfl rfl Try.func28 (by kernel_rfl) rfl #[] rfl (by (try simp only [List.map_toArray, List.map_cons, List.map_nil]); first | done | rfl | (simp only [List.length_drop, List.length_take]; rfl)) ?_; (with_reducible refine (sennitlaw02_awake.calls k  t309 _ A2.out).mono ?_); rintro e w23 ⟨rfl, hb⟩; refine ⟨_, rfl, ?_⟩; have n0_ := Aside0.mk (below_step (by repeat (first | (with_reducible first | exact HB.out | apply below_alloc | apply pw_below_drewN | apply below_drew1) | exact HB.out)) hb); clear HB; have HB := n0_; clear n0_; (try clear hb); (try clear hb2); (try clear hk); (try clear hi)) | ((with_reducible refine gate_callee (f := 34) rfl ?_); refine goesL_ (some 10) rfl rfl Try.func34 (by kernel_rfl) rfl #[.slice A0 l0.length c0] rfl (by (try simp only [List.map_toArray, List.map_cons, List.map_nil]); first | done | rfl | (simp only [List.length_drop, List.length_take]; rfl)) ?_; (with_reducible refine (sennitlaw02_few.calls k _ _ l0 false _ ?side1 ?side2 A3.out).mono ?_); (case side1 => repeat (first | exact (Kd.C_below HR0.out HB.out) | (with_reducible refine Kd.C_alloc ?_ _) | (with_reducible refine Kd.C_drewN ?_ _) | (with_reducible refine Kd.C_drew ?_))); (case side2 => exact HC0.out); rintro e w' ⟨rfl, ⟨nd, rfl⟩⟩; refine ⟨_, rfl, ?_⟩))
    go_ret
    exact ⟨by first | rfl | (simp [errW_none, errW_some] <;> rfl) | (simp [*, errW_none, errW_some] <;> rfl), by repeat (first | (with_reducible first | exact HB.out | apply below_alloc | apply pw_below_drewN | apply below_drew1) | exact HB.out)⟩

end Go.Proofs.Ytbhfenpccccloaa.M
