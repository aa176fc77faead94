/- By a program of this session: a Go function as a Lean function, and that the machine's call does what it says. -/
import Derived.Test.YtnebadlakmlkkaaF0
import Derived.Test.YtnebadlakmlkkaaF29
import Derived.Test.YtnebadlakmlkkaaF23
import Derived.Test.YtnebadlakmlkkaaF22
namespace Go.Proofs.Ytnebadlakmlkkaa.M
open Go.RowKit Go.Proofs.YtnebadlakmlkkaaW.PrintWords Go.Proofs.YtnebadlakmlkkaaW.PrintLast Go.Proofs.YtnebadlakmlkkaaW.PrintMore
attribute [local go_sem] max2_int min2_int max_two min_two max_three min_three max_four min_four
set_option linter.unusedVariables false
set_option linter.unusedSimpArgs false

/-! ### sennitlaw04_EditCounts: function 12 -/
mutual
def sennitlaw04_EditCounts.j0 : Nat → List Int → Int → Bool → Bool → Option (Bool)
  | 0, _, _, _, _ => none
  | k + 1, x0, x1, x5, x26 => if x26 = true then (some x5) else ((edit_Changes.f k x0 x1).bind fun bt270 => (sennitlaw04_EditCounts.l0 k x0 x1 x5 bt270.1 0 0))
def sennitlaw04_EditCounts.l0 : Nat → List Int → Int → Bool → List (S60) → Int → Int → Option (Bool)
  | 0, _, _, _, _, _, _ => none
  | k + 1, x0, x1, x5, x6, x8, x9 => if x9 < (x0.length : Int) then (if 0 ≤ x9 then (if (rd x0 x9) ≥ 0 then (sennitlaw04_EditCounts.l0 k x0 x1 x5 x6 (wrap64 (x8 + 1)) (wrap64 (x9 + 1))) else (sennitlaw04_EditCounts.l0 k x0 x1 x5 x6 x8 (wrap64 (x9 + 1)))) else (none)) else (sennitlaw04_EditCounts.l1 k x0 x1 x5 x6 x8 0 0 0)
def sennitlaw04_EditCounts.l1 : Nat → List Int → Int → Bool → List (S60) → Int → Int → Int → Int → Option (Bool)
  | 0, _, _, _, _, _, _, _, _ => none
  | k + 1, x0, x1, x5, x6, x8, x10, x11, x12 => if x12 < (x6.length : Int) then (if 0 ≤ x12 then (if x12 > 0 then (if 0 ≤ (wrap64 (x12 - 1)) then (if (wrap64 (x12 - 1)) < (x6.length : Int) then (if ((rd_T60 x6 x12).f0.f0) ≤ ((rd_T60 x6 (wrap64 (x12 - 1))).f0.f1) then (some false) else (if ((rd_T60 x6 x12).f1.f0) ≤ ((rd_T60 x6 (wrap64 (x12 - 1))).f1.f1) then (some false) else (sennitlaw04_EditCounts.l1 k x0 x1 x5 x6 x8 (wrap64 ((wrap64 (x10 + ((rd_T60 x6 x12).f0.f1))) - ((rd_T60 x6 x12).f0.f0))) (wrap64 ((wrap64 (x11 + ((rd_T60 x6 x12).f1.f1))) - ((rd_T60 x6 x12).f1.f0))) (wrap64 (x12 + 1))))) else (none)) else (none)) else (sennitlaw04_EditCounts.l1 k x0 x1 x5 x6 x8 (wrap64 ((wrap64 (x10 + ((rd_T60 x6 x12).f0.f1))) - ((rd_T60 x6 x12).f0.f0))) (wrap64 ((wrap64 (x11 + ((rd_T60 x6 x12).f1.f1))) - ((rd_T60 x6 x12).f1.f0))) (wrap64 (x12 + 1)))) else (none)) else (if x5 = true then (if (wrap64 (x10 + x8)) = (x0.length : Int) then (some ((wrap64 (x11 + x8)) == x1)) else (some false)) else (some false))
end
def sennitlaw04_EditCounts.f (k : Nat) (l0 : List Int) (a1 : Int) : Option (Bool) := (sennitlaw04_awake.f k).bind fun t268 => (if (l0.length : Int) > 60 then (sennitlaw04_EditCounts.j0 k l0 a1 t268 true) else (if a1 > 2000 then (sennitlaw04_EditCounts.j0 k l0 a1 t268 true) else ((sennitref04_May.f k l0 a1).bind fun t269 => (sennitlaw04_EditCounts.j0 k l0 a1 t268 (!t269)))))
theorem sennitlaw04_EditCounts.mono_l : ∀ k, (∀ y0 y1 y2 y3, LeO (sennitlaw04_EditCounts.j0 k y0 y1 y2 y3) (sennitlaw04_EditCounts.j0 (k + 1) y0 y1 y2 y3)) ∧ (∀ y0 y1 y2 y3 y4 y5, LeO (sennitlaw04_EditCounts.l0 k y0 y1 y2 y3 y4 y5) (sennitlaw04_EditCounts.l0 (k + 1) y0 y1 y2 y3 y4 y5)) ∧ (∀ y0 y1 y2 y3 y4 y5 y6 y7, LeO (sennitlaw04_EditCounts.l1 k y0 y1 y2 y3 y4 y5 y6 y7) (sennitlaw04_EditCounts.l1 (k + 1) y0 y1 y2 y3 y4 y5 y6 y7))
  | 0 => ⟨fun _ _ _ _ r h => by simp [sennitlaw04_EditCounts.j0] at h, fun _ _ _ _ _ _ r h => by simp [sennitlaw04_EditCounts.l0] at h, fun _ _ _ _ _ _ _ _ r h => by simp [sennitlaw04_EditCounts.l1] at h⟩
  | k + 1 => by
    obtain ⟨ih0, ih1, ih2⟩ := sennitlaw04_EditCounts.mono_l k
    refine ⟨?_, ?_, ?_⟩
    · intro y0 y1 y2 y3
      unfold sennitlaw04_EditCounts.j0
      repeat' first
      | (with_reducible exact ih0 _ _ _ _)
      | (with_reducible exact ih1 _ _ _ _ _ _)
      | (with_reducible exact ih2 _ _ _ _ _ _ _ _)
      | (with_reducible exact edit_Changes.mono _ _ _)
      | (with_reducible exact sennitlaw04_awake.mono _)
      | (with_reducible exact sennitref04_May.mono _ _ _)
      | (with_reducible exact LeO.refl _)
      | (with_reducible exact LeO.none _)
      | (with_reducible refine LeO.ite ?_ ?_)
      | (with_reducible refine LeO.bind ?_ (fun _ => ?_))
      | exact ih0 _ _ _ _
      | exact ih1 _ _ _ _ _ _
      | exact ih2 _ _ _ _ _ _ _ _
      | exact edit_Changes.mono _ _ _
      | exact sennitlaw04_awake.mono _
      | exact sennitref04_May.mono _ _ _
      | exact LeO.none _
      | refine LeO.ite ?_ ?_
      | refine LeO.bind ?_ (fun _ => ?_)
    · intro y0 y1 y2 y3 y4 y5
      unfold sennitlaw04_EditCounts.l0
      repeat' first
      | (with_reducible exact ih0 _ _ _ _)
      | (with_reducible exact ih1 _ _ _ _ _ _)
      | (with_reducible exact ih2 _ _ _ _ _ _ _ _)
      | (with_reducible exact edit_Changes.mono _ _ _)
      | (with_reducible exact sennitlaw04_awake.mono _)
      | (with_reducible exact sennitref04_May.mono _ _ _)
      | (with_reducible exact LeO.refl _)
      | (with_reducible exact LeO.none _)
      | (with_reducible refine LeO.ite ?_ ?_)
      | (with_reducible refine LeO.bind ?_ (fun _ => ?_))
      | exact ih0 _ _ _ _
      | exact ih1 _ _ _ _ _ _
      | exact ih2 _ _ _ _ _ _ _ _
      | exact edit_Changes.mono _ _ _
      | exact sennitlaw04_awake.mono _
      | exact sennitref04_May.mono _ _ _
      | exact LeO.none _
      | refine LeO.ite ?_ ?_
      | refine LeO.bind ?_ (fun _ => ?_)
    · intro y0 y1 y2 y3 y4 y5 y6 y7
      unfold sennitlaw04_EditCounts.l1
      repeat' first
      | (with_reducible exact ih0 _ _ _ _)
      | (with_reducible exact ih1 _ _ _ _ _ _)
      | (with_reducible exact ih2 _ _ _ _ _ _ _ _)
      | (with_reducible exact edit_Changes.mono _ _ _)
      | (with_reducible exact sennitlaw04_awake.mono _)
      | (with_reducible exact sennitref04_May.mono _ _ _)
      | (with_reducible exact LeO.refl _)
      | (with_reducible exact LeO.none _)
      | (with_reducible refine LeO.ite ?_ ?_)
      | (with_reducible refine LeO.bind ?_ (fun _ => ?_))
      | exact ih0 _ _ _ _
      | exact ih1 _ _ _ _ _ _
      | exact ih2 _ _ _ _ _ _ _ _
      | exact edit_Changes.mono _ _ _
      | exact sennitlaw04_awake.mono _
      | exact sennitref04_May.mono _ _ _
      | exact LeO.none _
      | refine LeO.ite ?_ ?_
      | refine LeO.bind ?_ (fun _ => ?_)
theorem sennitlaw04_EditCounts.mono : ∀ a0 a1 k, LeO (sennitlaw04_EditCounts.f k a0 a1) (sennitlaw04_EditCounts.f (k + 1) a0 a1) := by
  intro a0 a1 k
  obtain ⟨ih0, ih1, ih2⟩ := sennitlaw04_EditCounts.mono_l k
  unfold sennitlaw04_EditCounts.f
  repeat' first
      | (with_reducible exact ih0 _ _ _ _)
      | (with_reducible exact ih1 _ _ _ _ _ _)
      | (with_reducible exact ih2 _ _ _ _ _ _ _ _)
      | (with_reducible exact edit_Changes.mono _ _ _)
      | (with_reducible exact sennitlaw04_awake.mono _)
      | (with_reducible exact sennitref04_May.mono _ _ _)
      | (with_reducible exact LeO.refl _)
      | (with_reducible exact LeO.none _)
      | (with_reducible refine LeO.ite ?_ ?_)
      | (with_reducible refine LeO.bind ?_ (fun _ => ?_))
      | exact ih0 _ _ _ _
      | exact ih1 _ _ _ _ _ _
      | exact ih2 _ _ _ _ _ _ _ _
      | exact edit_Changes.mono _ _ _
      | exact sennitlaw04_awake.mono _
      | exact sennitref04_May.mono _ _ _
      | exact LeO.none _
      | refine LeO.ite ?_ ?_
      | refine LeO.bind ?_ (fun _ => ?_)
set_option maxHeartbeats 8000000 in
set_option maxRecDepth 100000 in
theorem sennitlaw04_EditCounts.calls (k : Nat) (A0 : Option Addr) (c0 : Nat) (l0 : List Int) (a1 : Int) (r : Bool) (w : World) (hr0 : Kd.C (Kd.int .i64) w A0 l0.length l0) (hc0 : l0.length ≤ c0) (h : sennitlaw04_EditCounts.f k l0 a1 = some r) :
    Calls Try.prog 12 #[.slice A0 l0.length c0, .int .i64 a1] w fun e w' => e = .returned (.bool r) ∧ Below w.heap.size w w' := by
  have HR0 := Aside0.mk hr0
  have HC0 := Aside0.mk hc0
  clear hr0 hc0
  have HB := Aside0.mk (Below.refl w.heap.size w)
  have H : ((sennitlaw04_awake.f k).bind fun t268 => (if (l0.length : Int) > 60 then (sennitlaw04_EditCounts.j0 k l0 a1 t268 true) else (if a1 > 2000 then (sennitlaw04_EditCounts.j0 k l0 a1 t268 true) else ((sennitref04_May.f k l0 a1).bind fun t269 => (sennitlaw04_EditCounts.j0 k l0 a1 t268 (!t269)))))) = some r := h
  clear h
  replace H := Option.bind_eq_some_iff.mp H
  obtain ⟨t268, A30, H⟩ := H
  replace H : (if (l0.length : Int) > 60 then (sennitlaw04_EditCounts.j0 k l0 a1 t268 true) else (if a1 > 2000 then (sennitlaw04_EditCounts.j0 k l0 a1 t268 true) else ((sennitref04_May.f k l0 a1).bind fun t269 => (sennitlaw04_EditCounts.j0 k l0 a1 t268 (!t269))))) = some r := H
  have A3 := Aside0.mk A30
  clear A30
  have HC4 := Aside0.mk H
  clear H
  go_enter Try.func12, Try.ntmps12
  go_upto_region 2 with (first | (go_at_call 22; (with_reducible refine (sennitlaw04_awake.calls k  t268 _ A3.out).mono ?_); rintro e w5 ⟨rfl, hb⟩; have n0_ := Aside0.mk (below_step (by repeat (first | (with_reducible first | exact HB.out | apply below_alloc | apply pw_below_drewN | apply below_drew1) | exact HB.out)) hb); clear HB; have HB := n0_; clear n0_; (try clear hb); (try clear hb2); (try clear hk); (try clear hi)))
  repeat (go_quiet (first | (go_at_call 22; (with_reducible refine (sennitlaw04_awake.calls k  t268 _ A3.out).mono ?_); rintro e w5 ⟨rfl, hb⟩; have n0_ := Aside0.mk (below_step (by repeat (first | (with_reducible first | exact HB.out | apply below_alloc | apply pw_below_drewN | apply below_drew1) | exact HB.out)) hb); clear HB; have HB := n0_; clear n0_; (try clear hb); (try clear hb2); (try clear hk); (try clear hi))); go_upto_region 2 with (first | (go_at_call 22; (with_reducible refine (sennitlaw04_awake.calls k  t268 _ A3.out).mono ?_); rintro e w5 ⟨rfl, hb⟩; have n0_ := Aside0.mk (below_step (by repeat (first | (with_reducible first | exact HB.out | apply below_alloc | apply pw_below_drewN | apply below_drew1) | exact HB.out)) hb); clear HB; have HB := n0_; clear n0_; (try clear hb); (try clear hb2); (try clear hk); (try clear hi))))
  (try simp only [Act.put, List.setIfInBounds_toArray, List.set_cons_zero, List.set_cons_succ])
  go_cut [26] (fun v26 wc => ∃ (kq : Nat) (x26_3 : Bool), v26 = .bool x26_3 ∧ Aside0 (sennitlaw04_EditCounts.j0 kq l0 a1 t268 x26_3 = some r) ∧ Aside0 (kq ≤ k) ∧ Aside0 (Below w.heap.size w wc))
  case first =>
    have H := HC4.out
    clear HC4
    by_cases c6 : (l0.length : Int) > 60
    · rw [if_pos c6] at H
      have c6b0 : decide (60 < (l0.length : Int)) = true := decide_eq_true c6
      have c6b1 : decide (60 < l0.length) = true := decide_eq_true (by omega)
      clear c6
      (first | rw [c6b0] | (simp only [i64_w, i32_w]; rw [c6b0]) | skip)
      have H' := Aside0.mk H
      clear H
      go_wp2
      repeat (go_quiet (fail); try go_wp2)
      go_meet
      case rel => exact ⟨_, (true), (by first | rfl | (simp; done) | (simp [*]; done)), H', ⟨by first | omega | exact Nat.le_refl _⟩, ⟨by repeat (first | (with_reducible first | exact HB.out | apply below_alloc | apply pw_below_drewN | apply below_drew1) | exact HB.out)⟩⟩
    · rw [if_neg c6] at H
      have c6b0 : decide (60 < (l0.length : Int)) = false := decide_eq_false c6
      have c6b1 : decide (60 < l0.length) = false := decide_eq_false (by omega)
      clear c6
      (first | rw [c6b0] | (simp only [i64_w, i32_w]; rw [c6b0]) | skip)
      by_cases c7 : a1 > 2000
      · rw [if_pos c7] at H
        have c7b0 : decide (2000 < a1) = true := decide_eq_true c7
        clear c7
        have H' := Aside0.mk H
        clear H
        go_wp2
        repeat (go_quiet (fail); try go_wp2)
        go_meet
        case rel => exact ⟨_, (true), (by first | rfl | (simp; done) | (simp [*]; done)), H', ⟨by first | omega | exact Nat.le_refl _⟩, ⟨by repeat (first | (with_reducible first | exact HB.out | apply below_alloc | apply pw_below_drewN | apply below_drew1) | exact HB.out)⟩⟩
      · rw [if_neg c7] at H
        have c7b0 : decide (2000 < a1) = false := decide_eq_false c7
        clear c7
        replace H := Option.bind_eq_some_iff.mp H
        obtain ⟨t269, A80, H⟩ := H
        replace H : (sennitlaw04_EditCounts.j0 k l0 a1 t268 (!t269)) = some r := H
        have A8 := Aside0.mk A80
        clear A80
        have H' := Aside0.mk H
        clear H
        go_wp2_with (first | (go_at_call 29; (with_reducible refine (sennitref04_May.calls k _ _ l0 a1 t269 _ ?side1 ?side2 A8.out).mono ?_); (case side1 => repeat (first | exact (Kd.C_below HR0.out HB.out) | (with_reducible refine Kd.C_alloc ?_ _) | (with_reducible refine Kd.C_drewN ?_ _) | (with_reducible refine Kd.C_drew ?_))); (case side2 => exact HC0.out); rintro e w' ⟨rfl, ⟨nd, rfl⟩⟩; (try first | exact ⟨rfl, _, World.drewN_drewN _ _ _⟩ | exact ⟨rfl, _, Eq.trans (World.drewN_drewN _ _ _) (congrArg (World.drewN _) (Nat.add_assoc _ _ _))⟩)))
        repeat (go_quiet (first | (go_at_call 29; (with_reducible refine (sennitref04_May.calls k _ _ l0 a1 t269 _ ?side1 ?side2 A8.out).mono ?_); (case side1 => repeat (first | exact (Kd.C_below HR0.out HB.out) | (with_reducible refine Kd.C_alloc ?_ _) | (with_reducible refine Kd.C_drewN ?_ _) | (with_reducible refine Kd.C_drew ?_))); (case side2 => exact HC0.out); rintro e w' ⟨rfl, ⟨nd, rfl⟩⟩; (try first | exact ⟨rfl, _, World.drewN_drewN _ _ _⟩ | exact ⟨rfl, _, Eq.trans (World.drewN_drewN _ _ _) (congrArg (World.drewN _) (Nat.add_assoc _ _ _))⟩))); try go_wp2_with (first | (go_at_call 29; (with_reducible refine (sennitref04_May.calls k _ _ l0 a1 t269 _ ?side1 ?side2 A8.out).mono ?_); (case side1 => repeat (first | exact (Kd.C_below HR0.out HB.out) | (with_reducible refine Kd.C_alloc ?_ _) | (with_reducible refine Kd.C_drewN ?_ _) | (with_reducible refine Kd.C_drew ?_))); (case side2 => exact HC0.out); rintro e w' ⟨rfl, ⟨nd, rfl⟩⟩; (try first | exact ⟨rfl, _, World.drewN_drewN _ _ _⟩ | exact ⟨rfl, _, Eq.trans (World.drewN_drewN _ _ _) (congrArg (World.drewN _) (Nat.add_assoc _ _ _))⟩))))
        go_meet
        case rel => exact ⟨_, (!t269), (by first | rfl | (simp; done) | (simp [*]; done)), H', ⟨by first | omega | exact Nat.le_refl _⟩, ⟨by repeat (first | (with_reducible first | exact HB.out | apply below_alloc | apply pw_below_drewN | apply below_drew1) | exact HB.out)⟩⟩
  case rest =>
    clear HC4
    try clear c1
    try clear p2
    try clear c6
    try clear c6b0
    try clear c6b1
    try clear c7
    try clear c7b0
    obtain ⟨kq, x26_3, rfl, HA, HJ3, HB⟩ := hcut
    cases kq with
    | zero => exact absurd HA.out (by simp [sennitlaw04_EditCounts.j0])
    | succ kj3 =>
      have H := HA.out
      clear HA
      simp only [sennitlaw04_EditCounts.j0] at H
      by_cases c9 : x26_3 = true
      · subst c9
        have H1 : (some t268) = some r := by rw [if_pos rfl] at H; exact H
        clear H
        have H := H1
        clear H1
        obtain rfl := Option.some.inj H
        go_wp2
        repeat (go_quiet (fail); try go_wp2)
        go_ret
        exact ⟨by first | rfl | (simp [errW_none, errW_some] <;> rfl) | (simp [*, errW_none, errW_some] <;> rfl), by repeat (first | (with_reducible first | exact HB.out | apply below_alloc | apply pw_below_drewN | apply below_drew1) | exact HB.out)⟩
      · replace c9 := Bool.eq_false_iff.mpr c9
        subst c9
        have H1 : ((edit_Changes.f kj3 l0 a1).bind fun bt270 => (sennitlaw04_EditCounts.l0 kj3 l0 a1 t268 bt270.1 0 0)) = some r := by rw [if_neg (show ¬ (false = true) by decide)] at H; exact H
        clear H
        have H := H1
        clear H1
        replace H := Option.bind_eq_some_iff.mp H
        obtain ⟨⟨t270, t271⟩, A100, H⟩ := H
        replace H : (sennitlaw04_EditCounts.l0 kj3 l0 a1 t268 t270 0 0) = some r := H
        have A10 := Aside0.mk A100
        clear A100
        have H' := Aside0.mk H
        clear H
        go_wp2_with (first | (go_at_call 23; (with_reducible refine (edit_Changes.calls kj3 _ _ l0 a1 t270 t271 _ ?side1 ?side2 A10.out).mono ?_); (case side1 => repeat (first | exact (Kd.C_below HR0.out HB.out) | (with_reducible refine Kd.C_alloc ?_ _) | (with_reducible refine Kd.C_drewN ?_ _) | (with_reducible refine Kd.C_drew ?_))); (case side2 => exact HC0.out); rintro e w11 ⟨v272, rfl, ho0, hb⟩; have n0_ := Aside0.mk (Kd.R_lower ho0 (below_size (by repeat (first | (with_reducible first | exact HB.out | apply below_alloc | apply pw_below_drewN | apply below_drew1) | exact HB.out)))); have n1_ := Aside0.mk (below_step (by repeat (first | (with_reducible first | exact HB.out | apply below_alloc | apply pw_below_drewN | apply below_drew1) | exact HB.out)) hb); clear HB; have HO273 := n0_; have HB := n1_; clear n0_ n1_; (try clear hb); (try clear hb2); (try clear hk); (try clear hi); (try clear ho0)))
        repeat (go_quiet (first | (go_at_call 23; (with_reducible refine (edit_Changes.calls kj3 _ _ l0 a1 t270 t271 _ ?side1 ?side2 A10.out).mono ?_); (case side1 => repeat (first | exact (Kd.C_below HR0.out HB.out) | (with_reducible refine Kd.C_alloc ?_ _) | (with_reducible refine Kd.C_drewN ?_ _) | (with_reducible refine Kd.C_drew ?_))); (case side2 => exact HC0.out); rintro e w11 ⟨v272, rfl, ho0, hb⟩; have n0_ := Aside0.mk (Kd.R_lower ho0 (below_size (by repeat (first | (with_reducible first | exact HB.out | apply below_alloc | apply pw_below_drewN | apply below_drew1) | exact HB.out)))); have n1_ := Aside0.mk (below_step (by repeat (first | (with_reducible first | exact HB.out | apply below_alloc | apply pw_below_drewN | apply below_drew1) | exact HB.out)) hb); clear HB; have HO273 := n0_; have HB := n1_; clear n0_ n1_; (try clear hb); (try clear hb2); (try clear hk); (try clear hi); (try clear ho0))); try go_wp2_with (first | (go_at_call 23; (with_reducible refine (edit_Changes.calls kj3 _ _ l0 a1 t270 t271 _ ?side1 ?side2 A10.out).mono ?_); (case side1 => repeat (first | exact (Kd.C_below HR0.out HB.out) | (with_reducible refine Kd.C_alloc ?_ _) | (with_reducible refine Kd.C_drewN ?_ _) | (with_reducible refine Kd.C_drew ?_))); (case side2 => exact HC0.out); rintro e w11 ⟨v272, rfl, ho0, hb⟩; have n0_ := Aside0.mk (Kd.R_lower ho0 (below_size (by repeat (first | (with_reducible first | exact HB.out | apply below_alloc | apply pw_below_drewN | apply below_drew1) | exact HB.out)))); have n1_ := Aside0.mk (below_step (by repeat (first | (with_reducible first | exact HB.out | apply below_alloc | apply pw_below_drewN | apply below_drew1) | exact HB.out)) hb); clear HB; have HO273 := n0_; have HB := n1_; clear n0_ n1_; (try clear hb); (try clear hb2); (try clear hk); (try clear hi); (try clear ho0))))
        go_loopg [8, 9] kj3 (fun kq v8 v9 w' => ∃ (x8_2 : Int) (x9_2 : Int), v8 = .int .i64 x8_2 ∧ v9 = .int .i64 x9_2 ∧ Aside0 (sennitlaw04_EditCounts.l0 kq l0 a1 t268 t270 x8_2 x9_2 = some r) ∧ Aside0 (kq ≤ kj3) ∧ Aside0 (Kd.R k60 60 w' w.heap.size (fun _ => True) v272 t270) ∧ Aside0 (Below w.heap.size w w'))
        case atStart => exact ⟨(0), (0), (by first | rfl | (simp; done) | (simp [*]; done)), (by first | rfl | (simp; done) | (simp [*]; done)), H', ⟨Nat.le_refl _⟩, ⟨by (with_reducible repeat (first | apply Kd.R_alloc | apply Kd.R_drewN | apply Kd.R_drew)); exact HO273.out⟩, ⟨by repeat (first | (with_reducible first | exact HB.out | apply below_alloc | apply pw_below_drewN | apply below_drew1) | exact HB.out)⟩⟩
        case round =>
          clear H'
          try clear c1
          try clear p2
          try clear c6
          try clear c6b0
          try clear c6b1
          try clear c7
          try clear c7b0
          try clear c9
          try clear p2
          obtain ⟨x8_2, x9_2, rfl, rfl, HA, HK2, HO_6, HB⟩ := hrel
          cases gk with
          | zero => exact absurd HA.out (by simp [sennitlaw04_EditCounts.l0])
          | succ k2 =>
            have H := HA.out
            clear HA
            simp only [sennitlaw04_EditCounts.l0] at H
            by_cases c12 : x9_2 < (l0.length : Int)
            · rw [if_pos c12] at H
              have c12b0 : decide (x9_2 < (l0.length : Int)) = true := decide_eq_true c12
              clear c12
              by_cases c13 : 0 ≤ x9_2
              · rw [if_pos c13] at H
                have c13b0 : decide (0 ≤ x9_2) = true := decide_eq_true c13
                clear c13
                by_cases c14 : (rd l0 x9_2) ≥ 0
                · rw [if_pos c14] at H
                  have c14b0 : decide (0 ≤ (rd l0 x9_2)) = true := decide_eq_true c14
                  clear c14
                  have H' := Aside0.mk H
                  clear H
                  have p274 : 0 ≤ (x9_2 : Int) := of_decide_eq_true (by first | (with_reducible assumption) | assumption)
                  have q274 : x9_2 < (l0.length : Int) := of_decide_eq_true (by first | (with_reducible assumption) | assumption)
                  obtain ⟨ad274, e274, hx274_0⟩ := Kd.at_int HR0.out x9_2 p274 q274
                  cases e274
                  replace hx274_0 := (HB.out.cell (World.block_lt_of_cell? w _ hx274_0)).trans hx274_0
                  replace p274 := eq_true p274
                  replace q274 := eq_true q274
                  go_wp2
                  repeat (go_quiet (fail); try go_wp2)
                  go_roundg k2
                  case measure => have := HJ3.out; have := HK2.out; omega
                  case rel => exact ⟨(wrap64 (x8_2 + 1)), (wrap64 (x9_2 + 1)), (by first | rfl | (simp; done) | (simp [*]; done)), (by first | rfl | (simp; done) | (simp [*]; done)), H', ⟨by have := HJ3.out; have := HK2.out; omega⟩, ⟨by (with_reducible repeat (first | apply Kd.R_alloc | apply Kd.R_drewN | apply Kd.R_drew)); exact HO_6.out⟩, ⟨by repeat (first | (with_reducible first | exact HB.out | apply below_alloc | apply pw_below_drewN | apply below_drew1) | exact HB.out)⟩⟩
                · rw [if_neg c14] at H
                  have c14b0 : decide (0 ≤ (rd l0 x9_2)) = false := decide_eq_false c14
                  clear c14
                  have H' := Aside0.mk H
                  clear H
                  have p274 : 0 ≤ (x9_2 : Int) := of_decide_eq_true (by first | (with_reducible assumption) | assumption)
                  have q274 : x9_2 < (l0.length : Int) := of_decide_eq_true (by first | (with_reducible assumption) | assumption)
                  obtain ⟨ad274, e274, hx274_0⟩ := Kd.at_int HR0.out x9_2 p274 q274
                  cases e274
                  replace hx274_0 := (HB.out.cell (World.block_lt_of_cell? w _ hx274_0)).trans hx274_0
                  replace p274 := eq_true p274
                  replace q274 := eq_true q274
                  go_wp2
                  repeat (go_quiet (fail); try go_wp2)
                  go_roundg k2
                  case measure => have := HJ3.out; have := HK2.out; omega
                  case rel => exact ⟨(x8_2), (wrap64 (x9_2 + 1)), (by first | rfl | (simp; done) | (simp [*]; done)), (by first | rfl | (simp; done) | (simp [*]; done)), H', ⟨by have := HJ3.out; have := HK2.out; omega⟩, ⟨by (with_reducible repeat (first | apply Kd.R_alloc | apply Kd.R_drewN | apply Kd.R_drew)); exact HO_6.out⟩, ⟨by repeat (first | (with_reducible first | exact HB.out | apply below_alloc | apply pw_below_drewN | apply below_drew1) | exact HB.out)⟩⟩
              · rw [if_neg c13] at H
                exact absurd H (by simp)
            · rw [if_neg c12] at H
              have c12b0 : decide (x9_2 < (l0.length : Int)) = false := decide_eq_false c12
              clear c12
              have H' := Aside0.mk H
              clear H
              go_wp2
              repeat (go_quiet (fail); try go_wp2)
              go_loopg [10, 11, 12] k2 (fun kq v10 v11 v12 w' => ∃ (x10_3 : Int) (x11_3 : Int) (x12_3 : Int), v10 = .int .i64 x10_3 ∧ v11 = .int .i64 x11_3 ∧ v12 = .int .i64 x12_3 ∧ Aside0 (sennitlaw04_EditCounts.l1 kq l0 a1 t268 t270 x8_2 x10_3 x11_3 x12_3 = some r) ∧ Aside0 (kq ≤ k2) ∧ Aside0 (Kd.R k60 60 w' w.heap.size (fun _ => True) v272 t270) ∧ Aside0 (Below w.heap.size w w'))
              case atStart => exact ⟨(0), (0), (0), (by first | rfl | (simp; done) | (simp [*]; done)), (by first | rfl | (simp; done) | (simp [*]; done)), (by first | rfl | (simp; done) | (simp [*]; done)), H', ⟨Nat.le_refl _⟩, ⟨by (with_reducible repeat (first | apply Kd.R_alloc | apply Kd.R_drewN | apply Kd.R_drew)); exact HO_6.out⟩, ⟨by repeat (first | (with_reducible first | exact HB.out | apply below_alloc | apply pw_below_drewN | apply below_drew1) | exact HB.out)⟩⟩
              case round =>
                clear H'
                try clear c1
                try clear p2
                try clear q2
                try clear hx2
                try clear c6
                try clear c6b0
                try clear c6b1
                try clear p6
                try clear c7
                try clear c7b0
                try clear c9
                try clear c12
                try clear c12b0
                try clear c13
                try clear c13b0
                try clear c14
                try clear c14b0
                try clear hx274_0
                try clear p2
                try clear p274
                try clear q274
                obtain ⟨x10_3, x11_3, x12_3, rfl, rfl, rfl, HA, HK3, HO_6, HB⟩ := hrel
                cases gk with
                | zero => exact absurd HA.out (by simp [sennitlaw04_EditCounts.l1])
                | succ k3 =>
                  have H := HA.out
                  clear HA
                  simp only [sennitlaw04_EditCounts.l1] at H
                  by_cases c15 : x12_3 < (t270.length : Int)
                  · rw [if_pos c15] at H
                    have c15b0 : decide (x12_3 < (t270.length : Int)) = true := decide_eq_true c15
                    clear c15
                    by_cases c16 : 0 ≤ x12_3
                    · rw [if_pos c16] at H
                      have c16b0 : decide (0 ≤ x12_3) = true := decide_eq_true c16
                      clear c16
                      by_cases c17 : x12_3 > 0
                      · rw [if_pos c17] at H
                        have c17b0 : decide (0 < x12_3) = true := decide_eq_true c17
                        clear c17
                        obtain ⟨ji18, hji18⟩ : ∃ j_ : Int, (wrap64 (x12_3 - 1)) = j_ := ⟨_, rfl⟩
                        replace H : (if 0 ≤ (ji18) then (if (ji18) < (t270.length : Int) then (if ((rd_T60 t270 x12_3).f0.f0) ≤ ((rd_T60 t270 (ji18)).f0.f1) then (some false) else (if ((rd_T60 t270 x12_3).f1.f0) ≤ ((rd_T60 t270 (ji18)).f1.f1) then (some false) else (sennitlaw04_EditCounts.l1 k3 l0 a1 t268 t270 x8_2 (wrap64 ((wrap64 (x10_3 + ((rd_T60 t270 x12_3).f0.f1))) - ((rd_T60 t270 x12_3).f0.f0))) (wrap64 ((wrap64 (x11_3 + ((rd_T60 t270 x12_3).f1.f1))) - ((rd_T60 t270 x12_3).f1.f0))) (wrap64 (x12_3 + 1))))) else (none)) else (none)) = some r := by first | (rw [hji18] at H; exact H) | (simp only [hji18] at H ⊢; exact H)
                        have hji18w : (IntKind.i64.wrap (x12_3 - 1)) = ji18 := (i64_w _).trans hji18
                        by_cases c19 : 0 ≤ (ji18)
                        · rw [if_pos c19] at H
                          have c19b0 : decide (0 ≤ (ji18)) = true := decide_eq_true c19
                          clear c19
                          by_cases c20 : (ji18) < (t270.length : Int)
                          · rw [if_pos c20] at H
                            have c20b0 : decide ((ji18) < (t270.length : Int)) = true := decide_eq_true c20
                            clear c20
                            by_cases c21 : ((rd_T60 t270 x12_3).f0.f0) ≤ ((rd_T60 t270 (ji18)).f0.f1)
                            · rw [if_pos c21] at H
                              have c21b0 : decide (((rd_T60 t270 x12_3).f0.f0) ≤ ((rd_T60 t270 (ji18)).f0.f1)) = true := decide_eq_true c21
                              clear c21
                              obtain rfl := Option.some.inj H
                              obtain ⟨Ao22, co22, eo22⟩ := Kd.R_slice HO_6.out
                              subst eo22
                              have p275 : 0 ≤ (x12_3 : Int) := of_decide_eq_true (by first | (with_reducible assumption) | assumption)
                              have q275 : x12_3 < (t270.length : Int) := of_decide_eq_true (by first | (with_reducible assumption) | assumption)
                              obtain ⟨ad275, e275, hx275_0, hx275_1, hx275_2, hx275_3⟩ := at_T60 (Kd.R_reads' HO_6.out).2.2 x12_3 p275 q275
                              cases e275
                              replace p275 := eq_true p275
                              replace q275 := eq_true q275
                              have p276 : 0 ≤ (x12_3 : Int) := of_decide_eq_true (by first | (with_reducible assumption) | assumption)
                              have q276 : x12_3 < (t270.length : Int) := of_decide_eq_true (by first | (with_reducible assumption) | assumption)
                              obtain ⟨ad276, e276, hx276_0, hx276_1, hx276_2, hx276_3⟩ := at_T60 (Kd.R_reads' HO_6.out).2.2 x12_3 p276 q276
                              obtain rfl : ad275 = ad276 := (by injection e276)
                              replace p276 := eq_true p276
                              replace q276 := eq_true q276
                              have p277 : 0 ≤ (x12_3 : Int) := of_decide_eq_true (by first | (with_reducible assumption) | assumption)
                              have q277 : x12_3 < (t270.length : Int) := of_decide_eq_true (by first | (with_reducible assumption) | assumption)
                              obtain ⟨ad277, e277, hx277_0, hx277_1, hx277_2, hx277_3⟩ := at_T60 (Kd.R_reads' HO_6.out).2.2 x12_3 p277 q277
                              obtain rfl : ad275 = ad277 := (by injection e277)
                              replace p277 := eq_true p277
                              replace q277 := eq_true q277
                              have p278 : 0 ≤ (x12_3 : Int) := of_decide_eq_true (by first | (with_reducible assumption) | assumption)
                              have q278 : x12_3 < (t270.length : Int) := of_decide_eq_true (by first | (with_reducible assumption) | assumption)
                              obtain ⟨ad278, e278, hx278_0, hx278_1, hx278_2, hx278_3⟩ := at_T60 (Kd.R_reads' HO_6.out).2.2 x12_3 p278 q278
                              obtain rfl : ad275 = ad278 := (by injection e278)
                              replace p278 := eq_true p278
                              replace q278 := eq_true q278
                              have p279 : 0 ≤ (x12_3 : Int) := of_decide_eq_true (by first | (with_reducible assumption) | assumption)
                              have q279 : x12_3 < (t270.length : Int) := of_decide_eq_true (by first | (with_reducible assumption) | assumption)
                              obtain ⟨ad279, e279, hx279_0, hx279_1, hx279_2, hx279_3⟩ := at_T60 (Kd.R_reads' HO_6.out).2.2 x12_3 p279 q279
                              obtain rfl : ad275 = ad279 := (by injection e279)
                              replace p279 := eq_true p279
                              replace q279 := eq_true q279
                              have p280 : 0 ≤ ((ji18) : Int) := of_decide_eq_true (by first | (with_reducible assumption) | assumption)
                              have q280 : (ji18) < (t270.length : Int) := of_decide_eq_true (by first | (with_reducible assumption) | assumption)
                              obtain ⟨ad280, e280, hx280_0, hx280_1, hx280_2, hx280_3⟩ := at_T60 (Kd.R_reads' HO_6.out).2.2 (ji18) p280 q280
                              obtain rfl : ad275 = ad280 := (by injection e280)
                              replace p280 := eq_true p280
                              replace q280 := eq_true q280
                              go_wp2
                              repeat (go_quiet (fail); try go_wp2)
                              go_ret
                              exact ⟨by first | rfl | (simp [errW_none, errW_some] <;> rfl) | (simp only [← hji18]; first | rfl | (simp [errW_none, errW_some] <;> rfl)) | (simp [*, errW_none, errW_some] <;> rfl), by repeat (first | (with_reducible first | exact HB.out | apply below_alloc | apply pw_below_drewN | apply below_drew1) | exact HB.out)⟩
                            · rw [if_neg c21] at H
                              have c21b0 : decide (((rd_T60 t270 x12_3).f0.f0) ≤ ((rd_T60 t270 (ji18)).f0.f1)) = false := decide_eq_false c21
                              clear c21
                              by_cases c23 : ((rd_T60 t270 x12_3).f1.f0) ≤ ((rd_T60 t270 (ji18)).f1.f1)
                              · rw [if_pos c23] at H
                                have c23b0 : decide (((rd_T60 t270 x12_3).f1.f0) ≤ ((rd_T60 t270 (ji18)).f1.f1)) = true := decide_eq_true c23
                                clear c23
                                obtain rfl := Option.some.inj H
                                obtain ⟨Ao24, co24, eo24⟩ := Kd.R_slice HO_6.out
                                subst eo24
                                have p275 : 0 ≤ (x12_3 : Int) := of_decide_eq_true (by first | (with_reducible assumption) | assumption)
                                have q275 : x12_3 < (t270.length : Int) := of_decide_eq_true (by first | (with_reducible assumption) | assumption)
                                obtain ⟨ad275, e275, hx275_0, hx275_1, hx275_2, hx275_3⟩ := at_T60 (Kd.R_reads' HO_6.out).2.2 x12_3 p275 q275
                                cases e275
                                replace p275 := eq_true p275
                                replace q275 := eq_true q275
                                have p276 : 0 ≤ (x12_3 : Int) := of_decide_eq_true (by first | (with_reducible assumption) | assumption)
                                have q276 : x12_3 < (t270.length : Int) := of_decide_eq_true (by first | (with_reducible assumption) | assumption)
                                obtain ⟨ad276, e276, hx276_0, hx276_1, hx276_2, hx276_3⟩ := at_T60 (Kd.R_reads' HO_6.out).2.2 x12_3 p276 q276
                                obtain rfl : ad275 = ad276 := (by injection e276)
                                replace p276 := eq_true p276
                                replace q276 := eq_true q276
                                have p277 : 0 ≤ (x12_3 : Int) := of_decide_eq_true (by first | (with_reducible assumption) | assumption)
                                have q277 : x12_3 < (t270.length : Int) := of_decide_eq_true (by first | (with_reducible assumption) | assumption)
                                obtain ⟨ad277, e277, hx277_0, hx277_1, hx277_2, hx277_3⟩ := at_T60 (Kd.R_reads' HO_6.out).2.2 x12_3 p277 q277
                                obtain rfl : ad275 = ad277 := (by injection e277)
                                replace p277 := eq_true p277
                                replace q277 := eq_true q277
                                have p278 : 0 ≤ (x12_3 : Int) := of_decide_eq_true (by first | (with_reducible assumption) | assumption)
                                have q278 : x12_3 < (t270.length : Int) := of_decide_eq_true (by first | (with_reducible assumption) | assumption)
                                obtain ⟨ad278, e278, hx278_0, hx278_1, hx278_2, hx278_3⟩ := at_T60 (Kd.R_reads' HO_6.out).2.2 x12_3 p278 q278
                                obtain rfl : ad275 = ad278 := (by injection e278)
                                replace p278 := eq_true p278
                                replace q278 := eq_true q278
                                have p279 : 0 ≤ (x12_3 : Int) := of_decide_eq_true (by first | (with_reducible assumption) | assumption)
                                have q279 : x12_3 < (t270.length : Int) := of_decide_eq_true (by first | (with_reducible assumption) | assumption)
                                obtain ⟨ad279, e279, hx279_0, hx279_1, hx279_2, hx279_3⟩ := at_T60 (Kd.R_reads' HO_6.out).2.2 x12_3 p279 q279
                                obtain rfl : ad275 = ad279 := (by injection e279)
                                replace p279 := eq_true p279
                                replace q279 := eq_true q279
                                have p280 : 0 ≤ ((ji18) : Int) := of_decide_eq_true (by first | (with_reducible assumption) | assumption)
                                have q280 : (ji18) < (t270.length : Int) := of_decide_eq_true (by first | (with_reducible assumption) | assumption)
                                obtain ⟨ad280, e280, hx280_0, hx280_1, hx280_2, hx280_3⟩ := at_T60 (Kd.R_reads' HO_6.out).2.2 (ji18) p280 q280
                                obtain rfl : ad275 = ad280 := (by injection e280)
                                replace p280 := eq_true p280
                                replace q280 := eq_true q280
                                have p281 : 0 ≤ (x12_3 : Int) := of_decide_eq_true (by first | (with_reducible assumption) | assumption)
                                have q281 : x12_3 < (t270.length : Int) := of_decide_eq_true (by first | (with_reducible assumption) | assumption)
                                obtain ⟨ad281, e281, hx281_0, hx281_1, hx281_2, hx281_3⟩ := at_T60 (Kd.R_reads' HO_6.out).2.2 x12_3 p281 q281
                                obtain rfl : ad275 = ad281 := (by injection e281)
                                replace p281 := eq_true p281
                                replace q281 := eq_true q281
                                have p282 : 0 ≤ ((ji18) : Int) := of_decide_eq_true (by first | (with_reducible assumption) | assumption)
                                have q282 : (ji18) < (t270.length : Int) := of_decide_eq_true (by first | (with_reducible assumption) | assumption)
                                obtain ⟨ad282, e282, hx282_0, hx282_1, hx282_2, hx282_3⟩ := at_T60 (Kd.R_reads' HO_6.out).2.2 (ji18) p282 q282
                                obtain rfl : ad275 = ad282 := (by injection e282)
                                replace p282 := eq_true p282
                                replace q282 := eq_true q282
                                go_wp2
                                repeat (go_quiet (fail); try go_wp2)
                                go_ret
                                exact ⟨by first | rfl | (simp [errW_none, errW_some] <;> rfl) | (simp only [← hji18]; first | rfl | (simp [errW_none, errW_some] <;> rfl)) | (simp [*, errW_none, errW_some] <;> rfl), by repeat (first | (with_reducible first | exact HB.out | apply below_alloc | apply pw_below_drewN | apply below_drew1) | exact HB.out)⟩
                              · rw [if_neg c23] at H
                                have c23b0 : decide (((rd_T60 t270 x12_3).f1.f0) ≤ ((rd_T60 t270 (ji18)).f1.f1)) = false := decide_eq_false c23
                                clear c23
                                have H' := Aside0.mk H
                                clear H
                                obtain ⟨Ao25, co25, eo25⟩ := Kd.R_slice HO_6.out
                                subst eo25
                                have p275 : 0 ≤ (x12_3 : Int) := of_decide_eq_true (by first | (with_reducible assumption) | assumption)
                                have q275 : x12_3 < (t270.length : Int) := of_decide_eq_true (by first | (with_reducible assumption) | assumption)
                                obtain ⟨ad275, e275, hx275_0, hx275_1, hx275_2, hx275_3⟩ := at_T60 (Kd.R_reads' HO_6.out).2.2 x12_3 p275 q275
                                cases e275
                                replace p275 := eq_true p275
                                replace q275 := eq_true q275
                                have p276 : 0 ≤ (x12_3 : Int) := of_decide_eq_true (by first | (with_reducible assumption) | assumption)
                                have q276 : x12_3 < (t270.length : Int) := of_decide_eq_true (by first | (with_reducible assumption) | assumption)
                                obtain ⟨ad276, e276, hx276_0, hx276_1, hx276_2, hx276_3⟩ := at_T60 (Kd.R_reads' HO_6.out).2.2 x12_3 p276 q276
                                obtain rfl : ad275 = ad276 := (by injection e276)
                                replace p276 := eq_true p276
                                replace q276 := eq_true q276
                                have p277 : 0 ≤ (x12_3 : Int) := of_decide_eq_true (by first | (with_reducible assumption) | assumption)
                                have q277 : x12_3 < (t270.length : Int) := of_decide_eq_true (by first | (with_reducible assumption) | assumption)
                                obtain ⟨ad277, e277, hx277_0, hx277_1, hx277_2, hx277_3⟩ := at_T60 (Kd.R_reads' HO_6.out).2.2 x12_3 p277 q277
                                obtain rfl : ad275 = ad277 := (by injection e277)
                                replace p277 := eq_true p277
                                replace q277 := eq_true q277
                                have p278 : 0 ≤ (x12_3 : Int) := of_decide_eq_true (by first | (with_reducible assumption) | assumption)
                                have q278 : x12_3 < (t270.length : Int) := of_decide_eq_true (by first | (with_reducible assumption) | assumption)
                                obtain ⟨ad278, e278, hx278_0, hx278_1, hx278_2, hx278_3⟩ := at_T60 (Kd.R_reads' HO_6.out).2.2 x12_3 p278 q278
                                obtain rfl : ad275 = ad278 := (by injection e278)
                                replace p278 := eq_true p278
                                replace q278 := eq_true q278
                                have p279 : 0 ≤ (x12_3 : Int) := of_decide_eq_true (by first | (with_reducible assumption) | assumption)
                                have q279 : x12_3 < (t270.length : Int) := of_decide_eq_true (by first | (with_reducible assumption) | assumption)
                                obtain ⟨ad279, e279, hx279_0, hx279_1, hx279_2, hx279_3⟩ := at_T60 (Kd.R_reads' HO_6.out).2.2 x12_3 p279 q279
                                obtain rfl : ad275 = ad279 := (by injection e279)
                                replace p279 := eq_true p279
                                replace q279 := eq_true q279
                                have p280 : 0 ≤ ((ji18) : Int) := of_decide_eq_true (by first | (with_reducible assumption) | assumption)
                                have q280 : (ji18) < (t270.length : Int) := of_decide_eq_true (by first | (with_reducible assumption) | assumption)
                                obtain ⟨ad280, e280, hx280_0, hx280_1, hx280_2, hx280_3⟩ := at_T60 (Kd.R_reads' HO_6.out).2.2 (ji18) p280 q280
                                obtain rfl : ad275 = ad280 := (by injection e280)
                                replace p280 := eq_true p280
                                replace q280 := eq_true q280
                                have p281 : 0 ≤ (x12_3 : Int) := of_decide_eq_true (by first | (with_reducible assumption) | assumption)
                                have q281 : x12_3 < (t270.length : Int) := of_decide_eq_true (by first | (with_reducible assumption) | assumption)
                                obtain ⟨ad281, e281, hx281_0, hx281_1, hx281_2, hx281_3⟩ := at_T60 (Kd.R_reads' HO_6.out).2.2 x12_3 p281 q281
                                obtain rfl : ad275 = ad281 := (by injection e281)
                                replace p281 := eq_true p281
                                replace q281 := eq_true q281
                                have p282 : 0 ≤ ((ji18) : Int) := of_decide_eq_true (by first | (with_reducible assumption) | assumption)
                                have q282 : (ji18) < (t270.length : Int) := of_decide_eq_true (by first | (with_reducible assumption) | assumption)
                                obtain ⟨ad282, e282, hx282_0, hx282_1, hx282_2, hx282_3⟩ := at_T60 (Kd.R_reads' HO_6.out).2.2 (ji18) p282 q282
                                obtain rfl : ad275 = ad282 := (by injection e282)
                                replace p282 := eq_true p282
                                replace q282 := eq_true q282
                                go_wp2
                                repeat (go_quiet (fail); try go_wp2)
                                go_roundg k3
                                case measure => have := HJ3.out; have := HK2.out; have := HK3.out; omega
                                case rel => exact ⟨(wrap64 ((wrap64 (x10_3 + ((rd_T60 t270 x12_3).f0.f1))) - ((rd_T60 t270 x12_3).f0.f0))), (wrap64 ((wrap64 (x11_3 + ((rd_T60 t270 x12_3).f1.f1))) - ((rd_T60 t270 x12_3).f1.f0))), (wrap64 (x12_3 + 1)), (by first | rfl | (simp; done) | (simp [*]; done)), (by first | rfl | (simp; done) | (simp [*]; done)), (by first | rfl | (simp; done) | (simp [*]; done)), H', ⟨by have := HJ3.out; have := HK2.out; have := HK3.out; omega⟩, ⟨by (with_reducible repeat (first | apply Kd.R_alloc | apply Kd.R_drewN | apply Kd.R_drew)); exact HO_6.out⟩, ⟨by repeat (first | (with_reducible first | exact HB.out | apply below_alloc | apply pw_below_drewN | apply below_drew1) | exact HB.out)⟩⟩
                          · rw [if_neg c20] at H
                            exact absurd H (by simp)
                        · rw [if_neg c19] at H
                          exact absurd H (by simp)
                      · rw [if_neg c17] at H
                        have c17b0 : decide (0 < x12_3) = false := decide_eq_false c17
                        clear c17
                        have H' := Aside0.mk H
                        clear H
                        obtain ⟨Ao26, co26, eo26⟩ := Kd.R_slice HO_6.out
                        subst eo26
                        have p275 : 0 ≤ (x12_3 : Int) := of_decide_eq_true (by first | (with_reducible assumption) | assumption)
                        have q275 : x12_3 < (t270.length : Int) := of_decide_eq_true (by first | (with_reducible assumption) | assumption)
                        obtain ⟨ad275, e275, hx275_0, hx275_1, hx275_2, hx275_3⟩ := at_T60 (Kd.R_reads' HO_6.out).2.2 x12_3 p275 q275
                        cases e275
                        replace p275 := eq_true p275
                        replace q275 := eq_true q275
                        have p276 : 0 ≤ (x12_3 : Int) := of_decide_eq_true (by first | (with_reducible assumption) | assumption)
                        have q276 : x12_3 < (t270.length : Int) := of_decide_eq_true (by first | (with_reducible assumption) | assumption)
                        obtain ⟨ad276, e276, hx276_0, hx276_1, hx276_2, hx276_3⟩ := at_T60 (Kd.R_reads' HO_6.out).2.2 x12_3 p276 q276
                        obtain rfl : ad275 = ad276 := (by injection e276)
                        replace p276 := eq_true p276
                        replace q276 := eq_true q276
                        have p277 : 0 ≤ (x12_3 : Int) := of_decide_eq_true (by first | (with_reducible assumption) | assumption)
                        have q277 : x12_3 < (t270.length : Int) := of_decide_eq_true (by first | (with_reducible assumption) | assumption)
                        obtain ⟨ad277, e277, hx277_0, hx277_1, hx277_2, hx277_3⟩ := at_T60 (Kd.R_reads' HO_6.out).2.2 x12_3 p277 q277
                        obtain rfl : ad275 = ad277 := (by injection e277)
                        replace p277 := eq_true p277
                        replace q277 := eq_true q277
                        have p278 : 0 ≤ (x12_3 : Int) := of_decide_eq_true (by first | (with_reducible assumption) | assumption)
                        have q278 : x12_3 < (t270.length : Int) := of_decide_eq_true (by first | (with_reducible assumption) | assumption)
                        obtain ⟨ad278, e278, hx278_0, hx278_1, hx278_2, hx278_3⟩ := at_T60 (Kd.R_reads' HO_6.out).2.2 x12_3 p278 q278
                        obtain rfl : ad275 = ad278 := (by injection e278)
                        replace p278 := eq_true p278
                        replace q278 := eq_true q278
                        go_wp2
                        repeat (go_quiet (fail); try go_wp2)
                        go_roundg k3
                        case measure => have := HJ3.out; have := HK2.out; have := HK3.out; omega
                        case rel => exact ⟨(wrap64 ((wrap64 (x10_3 + ((rd_T60 t270 x12_3).f0.f1))) - ((rd_T60 t270 x12_3).f0.f0))), (wrap64 ((wrap64 (x11_3 + ((rd_T60 t270 x12_3).f1.f1))) - ((rd_T60 t270 x12_3).f1.f0))), (wrap64 (x12_3 + 1)), (by first | rfl | (simp; done) | (simp [*]; done)), (by first | rfl | (simp; done) | (simp [*]; done)), (by first | rfl | (simp; done) | (simp [*]; done)), H', ⟨by have := HJ3.out; have := HK2.out; have := HK3.out; omega⟩, ⟨by (with_reducible repeat (first | apply Kd.R_alloc | apply Kd.R_drewN | apply Kd.R_drew)); exact HO_6.out⟩, ⟨by repeat (first | (with_reducible first | exact HB.out | apply below_alloc | apply pw_below_drewN | apply below_drew1) | exact HB.out)⟩⟩
                    · rw [if_neg c16] at H
                      exact absurd H (by simp)
                  · rw [if_neg c15] at H
                    have c15b0 : decide (x12_3 < (t270.length : Int)) = false := decide_eq_false c15
                    clear c15
                    by_cases c27 : t268 = true
                    · subst c27
                      have H1 : (if (wrap64 (x10_3 + x8_2)) = (l0.length : Int) then (some ((wrap64 (x11_3 + x8_2)) == a1)) else (some false)) = some r := by rw [if_pos rfl] at H; exact H
                      clear H
                      have H := H1
                      clear H1
                      by_cases c28 : (wrap64 (x10_3 + x8_2)) = (l0.length : Int)
                      · rw [if_pos c28] at H
                        have c28b0 : ((wrap64 (x10_3 + x8_2)) == (l0.length : Int)) = true := beq_iff_eq.mpr c28
                        have c28b1 : ((wrap64 (x10_3 + x8_2)) != (l0.length : Int)) = false := bne_eq_false_iff_eq.mpr c28
                        clear c28
                        obtain rfl := Option.some.inj H
                        obtain ⟨Ao29, co29, eo29⟩ := Kd.R_slice HO_6.out
                        subst eo29
                        go_wp2
                        repeat (go_quiet (fail); try go_wp2)
                        go_ret
                        exact ⟨by first | rfl | (simp [errW_none, errW_some] <;> rfl) | (simp [*, errW_none, errW_some] <;> rfl), by repeat (first | (with_reducible first | exact HB.out | apply below_alloc | apply pw_below_drewN | apply below_drew1) | exact HB.out)⟩
                      · rw [if_neg c28] at H
                        have c28b0 : ((wrap64 (x10_3 + x8_2)) == (l0.length : Int)) = false := beq_eq_false_iff_ne.mpr c28
                        have c28b1 : ((wrap64 (x10_3 + x8_2)) != (l0.length : Int)) = true := bne_iff_ne.mpr c28
                        obtain rfl := Option.some.inj H
                        obtain ⟨Ao30, co30, eo30⟩ := Kd.R_slice HO_6.out
                        subst eo30
                        go_wp2
                        repeat (go_quiet (fail); try go_wp2)
                        go_ret
                        exact ⟨by first | rfl | (simp [errW_none, errW_some] <;> rfl) | (simp [*, errW_none, errW_some] <;> rfl), by repeat (first | (with_reducible first | exact HB.out | apply below_alloc | apply pw_below_drewN | apply below_drew1) | exact HB.out)⟩
                    · replace c27 := Bool.eq_false_iff.mpr c27
                      subst c27
                      have H1 : (some false) = some r := by rw [if_neg (show ¬ (false = true) by decide)] at H; exact H
                      clear H
                      have H := H1
                      clear H1
                      obtain rfl := Option.some.inj H
                      obtain ⟨Ao31, co31, eo31⟩ := Kd.R_slice HO_6.out
                      subst eo31
                      go_wp2
                      repeat (go_quiet (fail); try go_wp2)
                      go_ret
                      exact ⟨by first | rfl | (simp [errW_none, errW_some] <;> rfl) | (simp [*, errW_none, errW_some] <;> rfl), by repeat (first | (with_reducible first | exact HB.out | apply below_alloc | apply pw_below_drewN | apply below_drew1) | exact HB.out)⟩

/-- THE ONE PURE STATEMENT of sennitlaw04_EditCounts: yours. -/
def sennitlaw04_EditCounts.Pure : Prop := ∀ (l0 : List Int) (a1 : Int), l0.length ≤ maxLen → l0.length * 8 ≤ 140737488351232 → (∀ x ∈ l0, (Lit.int .i64 x).wf = true) → (Lit.int .i64 a1).wf = true → ∃ k, sennitlaw04_EditCounts.f k l0 a1 = some true
theorem sennitlaw04_EditCounts.walk (P : sennitlaw04_EditCounts.Pure) (a0 : Option Addr) (len0 cap0 : Nat) (z0 : List Int) (a1 : Int) (w : World) (w0 : (a0 = none ∧ len0 = 0 ∧ cap0 = 0 ∧ z0 = []) ∨ ∃ x, a0 = some x ∧ len0 ≤ cap0 ∧ cap0 ≤ maxLen ∧ z0.length = cap0 ∧ (∀ i, i < z0.length → w.cell? (x.add i) = some (.int .i64 (z0.getD i 0))) ∧ ∀ n ∈ z0, (Lit.int .i64 n).wf = true) (y0 : len0 * 8 ≤ 140737488351232) (w1 : (Lit.int .i64 a1).wf = true) :
    Calls Try.prog 12 #[.slice a0 len0 cap0, .int .i64 a1] w fun e w' => e = .returned (.bool true) ∧ Below w.heap.size w w' := by
  obtain ⟨l0, rfl, hr0, hm0, hw0, hc0⟩ := ReadsInt.ofRowC w0
  obtain ⟨k, h⟩ := P l0 a1 hm0 y0 hw0 w1
  refine (sennitlaw04_EditCounts.calls k _ _ l0 a1 true w (Kd.C_of_reads (d := (0 : Int)) (h1 := fun _ => rfl) hr0) hc0 h).mono ?_
  rintro e w' ⟨rfl, hd⟩
  exact ⟨rfl, hd⟩

end Go.Proofs.Ytnebadlakmlkkaa.M
