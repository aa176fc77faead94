/- By a program of this session: a Go function as a Lean function, and that the machine's call does what it says. -/
import Derived.Test.YtbhfenpccccloaaF0
import Derived.Test.YtbhfenpccccloaaF28
import Derived.Test.YtbhfenpccccloaaF34
import Derived.Test.YtbhfenpccccloaaF35
namespace Go.Proofs.Ytbhfenpccccloaa.M
open Go.RowKit Go.Proofs.YtbhfenpccccloaaW.PrintWords Go.Proofs.YtbhfenpccccloaaW.PrintLast Go.Proofs.YtbhfenpccccloaaW.PrintMore
attribute [local go_sem] max2_int min2_int max_two min_two max_three min_three max_four min_four
set_option linter.unusedVariables false
set_option linter.unusedSimpArgs false

/-! ### sennitlaw02_InternSame: function 10 -/
mutual
def sennitlaw02_InternSame.j1 : Nat → Bool → List ByteArray → List Int → Int → Int → Option (Bool)
  | 0, _, _, _, _, _ => none
  | k + 1, x5, x7, x8, x310000, x310001 => if (x7.length : Int) = (x8.length : Int) then (if (x7.length : Int) = 0 then (some x5) else (if x5 = true then (if 0 ≤ (Int.tmod (wrap64 (x310000)) (x7.length : Int)) then (if (Int.tmod (wrap64 (x310000)) (x7.length : Int)) < (x7.length : Int) then (if 0 ≤ (Int.tmod (wrap64 (x310001)) (x7.length : Int)) then (if (Int.tmod (wrap64 (x310001)) (x7.length : Int)) < (x7.length : Int) then (if (Int.tmod (wrap64 (x310000)) (x7.length : Int)) < (x8.length : Int) then (if (Int.tmod (wrap64 (x310001)) (x7.length : Int)) < (x8.length : Int) then (some (((rdOf ByteArray.empty x7 (Int.tmod (wrap64 (x310000)) (x7.length : Int))).toList == (rdOf ByteArray.empty x7 (Int.tmod (wrap64 (x310001)) (x7.length : Int))).toList) == ((rd x8 (Int.tmod (wrap64 (x310000)) (x7.length : Int))) == (rd x8 (Int.tmod (wrap64 (x310001)) (x7.length : Int)))))) else (none)) else (none)) else (none)) else (none)) else (none)) else (none)) else (some false))) else (some false)
def sennitlaw02_InternSame.l0 : Nat → List (List ByteArray) → Bool → List (List Int) → List ByteArray → List Int → Int → Int → Int → Option (Bool)
  | 0, _, _, _, _, _, _, _, _ => none
  | k + 1, x0, x5, x6, x7, x8, x9, x310000, x310001 => if x9 < (x0.length : Int) then (if x9 < (x6.length : Int) then (if 0 ≤ x9 then (if x7.length + (rd_L1 x0 x9).length < 8796093022208 then (if x8.length + (rd_L5 x6 x9).length < 17592186044416 then (sennitlaw02_InternSame.l0 k x0 x5 x6 (x7 ++ (rd_L1 x0 x9)) (x8 ++ (rd_L5 x6 x9)) (wrap64 (x9 + 1)) x310000 x310001) else (none)) else (none)) else (none)) else (sennitlaw02_InternSame.j1 k x5 x7 x8 x310000 x310001)) else (sennitlaw02_InternSame.j1 k x5 x7 x8 x310000 x310001)
end
def sennitlaw02_InternSame.f (k : Nat) (l0 : List (List ByteArray)) (a1_0 : Int) (a1_1 : Int) : Option (Bool) := (sennitlaw02_awake.f k).bind fun t310 => ((sennitlaw02_few.f k l0).bind fun t311 => (if t311 = true then ((intern_All.f k l0).bind fun t312 => (sennitlaw02_InternSame.l0 k l0 t310 t312 ([] : List ByteArray) ([] : List Int) 0 a1_0 a1_1)) else (some t310)))
theorem sennitlaw02_InternSame.mono_l : ∀ k, (∀ y0 y1 y2 y3 y4, LeO (sennitlaw02_InternSame.j1 k y0 y1 y2 y3 y4) (sennitlaw02_InternSame.j1 (k + 1) y0 y1 y2 y3 y4)) ∧ (∀ y0 y1 y2 y3 y4 y5 y6 y7, LeO (sennitlaw02_InternSame.l0 k y0 y1 y2 y3 y4 y5 y6 y7) (sennitlaw02_InternSame.l0 (k + 1) y0 y1 y2 y3 y4 y5 y6 y7))
  | 0 => ⟨fun _ _ _ _ _ r h => by simp [sennitlaw02_InternSame.j1] at h, fun _ _ _ _ _ _ _ _ r h => by simp [sennitlaw02_InternSame.l0] at h⟩
  | k + 1 => by
    obtain ⟨ih0, ih1⟩ := sennitlaw02_InternSame.mono_l k
    refine ⟨?_, ?_⟩
    · intro y0 y1 y2 y3 y4
      unfold sennitlaw02_InternSame.j1
      repeat' first
      | (with_reducible exact ih0 _ _ _ _ _)
      | (with_reducible exact ih1 _ _ _ _ _ _ _ _)
      | (with_reducible exact intern_All.mono _ _)
      | (with_reducible exact sennitlaw02_awake.mono _)
      | (with_reducible exact sennitlaw02_few.mono _ _)
      | (with_reducible exact LeO.refl _)
      | (with_reducible exact LeO.none _)
      | (with_reducible refine LeO.ite ?_ ?_)
      | (with_reducible refine LeO.bind ?_ (fun _ => ?_))
      | exact ih0 _ _ _ _ _
      | exact ih1 _ _ _ _ _ _ _ _
      | exact intern_All.mono _ _
      | exact sennitlaw02_awake.mono _
      | exact sennitlaw02_few.mono _ _
      | exact LeO.none _
      | refine LeO.ite ?_ ?_
      | refine LeO.bind ?_ (fun _ => ?_)
    · intro y0 y1 y2 y3 y4 y5 y6 y7
      unfold sennitlaw02_InternSame.l0
      repeat' first
      | (with_reducible exact ih0 _ _ _ _ _)
      | (with_reducible exact ih1 _ _ _ _ _ _ _ _)
      | (with_reducible exact intern_All.mono _ _)
      | (with_reducible exact sennitlaw02_awake.mono _)
      | (with_reducible exact sennitlaw02_few.mono _ _)
      | (with_reducible exact LeO.refl _)
      | (with_reducible exact LeO.none _)
      | (with_reducible refine LeO.ite ?_ ?_)
      | (with_reducible refine LeO.bind ?_ (fun _ => ?_))
      | exact ih0 _ _ _ _ _
      | exact ih1 _ _ _ _ _ _ _ _
      | exact intern_All.mono _ _
      | exact sennitlaw02_awake.mono _
      | exact sennitlaw02_few.mono _ _
      | exact LeO.none _
      | refine LeO.ite ?_ ?_
      | refine LeO.bind ?_ (fun _ => ?_)
theorem sennitlaw02_InternSame.mono : ∀ a0 a1 a2 k, LeO (sennitlaw02_InternSame.f k a0 a1 a2) (sennitlaw02_InternSame.f (k + 1) a0 a1 a2) := by
  intro a0 a1 a2 k
  obtain ⟨ih0, ih1⟩ := sennitlaw02_InternSame.mono_l k
  unfold sennitlaw02_InternSame.f
  repeat' first
      | (with_reducible exact ih0 _ _ _ _ _)
      | (with_reducible exact ih1 _ _ _ _ _ _ _ _)
      | (with_reducible exact intern_All.mono _ _)
      | (with_reducible exact sennitlaw02_awake.mono _)
      | (with_reducible exact sennitlaw02_few.mono _ _)
      | (with_reducible exact LeO.refl _)
      | (with_reducible exact LeO.none _)
      | (with_reducible refine LeO.ite ?_ ?_)
      | (with_reducible refine LeO.bind ?_ (fun _ => ?_))
      | exact ih0 _ _ _ _ _
      | exact ih1 _ _ _ _ _ _ _ _
      | exact intern_All.mono _ _
      | exact sennitlaw02_awake.mono _
      | exact sennitlaw02_few.mono _ _
      | exact LeO.none _
      | refine LeO.ite ?_ ?_
      | refine LeO.bind ?_ (fun _ => ?_)
set_option maxHeartbeats 8000000 in
set_option maxRecDepth 100000 in
theorem sennitlaw02_InternSame.calls (k : Nat) (A0 : Option Addr) (c0 : Nat) (l0 : List (List ByteArray)) (a1_0 : Int) (a1_1 : Int) (r : Bool) (w : World) (hr0 : Kd.C (Kd.slice 9 Kd.string) w A0 l0.length l0) (hc0 : l0.length ≤ c0) (h : sennitlaw02_InternSame.f k l0 a1_0 a1_1 = some r) :
    Calls Try.prog 10 #[.slice A0 l0.length c0, .agg #[.int .u8 a1_0, .int .u8 a1_1]] w fun e w' => e = .returned (.bool r) ∧ Below w.heap.size w w' := by
  have hu45 := Try.underlying45
  have HR0 := Aside0.mk hr0
  have HC0 := Aside0.mk hc0
  clear hr0 hc0
  have HB := Aside0.mk (Below.refl w.heap.size w)
  have H : ((sennitlaw02_awake.f k).bind fun t310 => ((sennitlaw02_few.f k l0).bind fun t311 => (if t311 = true then ((intern_All.f k l0).bind fun t312 => (sennitlaw02_InternSame.l0 k l0 t310 t312 ([] : List ByteArray) ([] : List Int) 0 a1_0 a1_1)) else (some t310)))) = some r := h
  clear h
  replace H := Option.bind_eq_some_iff.mp H
  obtain ⟨t310, A30, H⟩ := H
  replace H : ((sennitlaw02_few.f k l0).bind fun t311 => (if t311 = true then ((intern_All.f k l0).bind fun t312 => (sennitlaw02_InternSame.l0 k l0 t310 t312 ([] : List ByteArray) ([] : List Int) 0 a1_0 a1_1)) else (some t310))) = some r := H
  have A3 := Aside0.mk A30
  clear A30
  replace H := Option.bind_eq_some_iff.mp H
  obtain ⟨t311, A40, H⟩ := H
  replace H : (if t311 = true then ((intern_All.f k l0).bind fun t312 => (sennitlaw02_InternSame.l0 k l0 t310 t312 ([] : List ByteArray) ([] : List Int) 0 a1_0 a1_1)) else (some t310)) = some r := H
  have A4 := Aside0.mk A40
  clear A40
  by_cases c5 : t311 = true
  · subst c5
    have H1 : ((intern_All.f k l0).bind fun t312 => (sennitlaw02_InternSame.l0 k l0 t310 t312 ([] : List ByteArray) ([] : List Int) 0 a1_0 a1_1)) = some r := by rw [if_pos rfl] at H; exact H
    clear H
    have H := H1
    clear H1
    replace H := Option.bind_eq_some_iff.mp H
    obtain ⟨t312, A60, H⟩ := H
    replace H : (sennitlaw02_InternSame.l0 k l0 t310 t312 ([] : List ByteArray) ([] : List Int) 0 a1_0 a1_1) = some r := H
    have A6 := Aside0.mk A60
    clear A60
    have HC7 := Aside0.mk H
    clear H
    go_enter Try.func10, Try.ntmps10
    go_upto_block 0 with (first | ((with_reducible refine gate_dst (N := 3) rfl ?_); (try (refine gate_guard (by rfl) ?_; dsimp only)); refine box_event ?hg (N := 3) ?hd (cs := #[.int .u8 a1_0, .int .u8 a1_1]) (t := 45) ?hr ?_; (case hd => rfl); (case hg => rfl); (case hr => first | (go_simp; done) | (go_simp; rfl)); intro gb309 hg w8 hbox hb; have n0_ := Aside0.mk (below_step (by repeat (first | (with_reducible first | exact HB.out | apply below_alloc | apply pw_below_drewN | apply below_drew1) | exact HB.out)) hb); have n1_ := Aside0.mk (hbox); have n2_ := Aside0.mk ((by rw [hg]; exact (below_size (by repeat (first | (with_reducible first | exact HB.out | apply below_alloc | apply pw_below_drewN | apply below_drew1) | exact HB.out))) : w.heap.size ≤ gb309)); have n3_ := Aside0.mk ((by rw [hg]; exact (below_size (by repeat (first | (with_reducible first | exact HB.out | apply below_alloc | apply pw_below_drewN | apply below_drew1) | exact HB.out))) : w.heap.size ≤ gb309)); clear HB; have HB := n0_; have BK309 := n1_; have GW309 := n2_; have GE309 := n3_; clear n0_ n1_ n2_ n3_; clear hb hbox hg) | (go_at_call 28; (with_reducible refine (sennitlaw02_awake.calls k  t310 _ A3.out).mono ?_); rintro e w9 ⟨rfl, hb⟩; have n0_ := Aside0.mk (blk_below (g := gb309) (o := .cells #[.int .u8 a1_0, .int .u8 a1_1] 45 (0, 0)) (by (with_reducible repeat (first | refine blk_drewN ?_ _ | refine blk_drew ?_ | refine blk_alloc ?_ _)); exact BK309.out) hb); have n1_ := Aside0.mk (below_step (by repeat (first | (with_reducible first | exact HB.out | apply below_alloc | apply pw_below_drewN | apply below_drew1 | refine below_set ?_ GE309.out) | exact HB.out)) hb); clear BK309; clear HB; have BK309 := n0_; have HB := n1_; clear n0_ n1_; (try clear hb); (try clear hb2); (try clear hk); (try clear hi)) | (go_at_call 34; (with_reducible refine (sennitlaw02_few.calls k _ _ l0 true _ ?side1 ?side2 A4.out).mono ?_); (case side1 => repeat (first | exact (Kd.C_below HR0.out HB.out) | (with_reducible refine Kd.C_alloc ?_ _) | (with_reducible refine Kd.C_drewN ?_ _) | (with_reducible refine Kd.C_drew ?_))); (case side2 => exact HC0.out); rintro e w' ⟨rfl, ⟨nd, rfl⟩⟩; (try first | exact ⟨rfl, _, World.drewN_drewN _ _ _⟩ | exact ⟨rfl, _, Eq.trans (World.drewN_drewN _ _ _) (congrArg (World.drewN _) (Nat.add_assoc _ _ _))⟩)) | (go_at_call 35; (with_reducible refine (intern_All.calls k _ _ l0 t312 _ ?side1 ?side2 A6.out).mono ?_); (case side1 => repeat (first | exact (Kd.C_below HR0.out (by repeat (first | (with_reducible first | exact HB.out | apply below_alloc | apply pw_below_drewN | apply below_drew1 | refine below_set ?_ GE309.out) | exact HB.out))) | (with_reducible refine Kd.C_alloc ?_ _) | (with_reducible refine Kd.C_drewN ?_ _) | (with_reducible refine Kd.C_drew ?_))); (case side2 => exact HC0.out); rintro e w10 ⟨v313, rfl, ho0, hb⟩; have n0_ := Aside0.mk (Kd.V_lower (Kd.V_mono (ok' := fun k_ => k_ ≠ gb309) ho0 (fun k_ hk_ => (Kd.freshB (g := gb309) (o := .cells #[.int .u8 a1_0, .int .u8 a1_1] 45 (0, 0)) (by (with_reducible repeat (first | refine blk_drewN ?_ _ | refine blk_drew ?_ | refine blk_alloc ?_ _)); exact BK309.out) k_ hk_))) (below_size (by repeat (first | (with_reducible first | exact HB.out | apply below_alloc | apply pw_below_drewN | apply below_drew1 | refine below_set ?_ GE309.out) | exact HB.out)))); have n1_ := Aside0.mk (blk_below (g := gb309) (o := .cells #[.int .u8 a1_0, .int .u8 a1_1] 45 (0, 0)) (by (with_reducible repeat (first | refine blk_drewN ?_ _ | refine blk_drew ?_ | refine blk_alloc ?_ _)); exact BK309.out) hb); have n2_ := Aside0.mk (below_step (by repeat (first | (with_reducible first | exact HB.out | apply below_alloc | apply pw_below_drewN | apply below_drew1 | refine below_set ?_ GE309.out) | exact HB.out)) hb); clear BK309; clear HB; have HO314 := n0_; have BK309 := n1_; have HB := n2_; clear n0_ n1_ n2_; (try clear hb); (try clear hb2); (try clear hk); (try clear hi); (try clear ho0)))
    repeat (go_quiet (first | ((with_reducible refine gate_dst (N := 3) rfl ?_); (try (refine gate_guard (by rfl) ?_; dsimp only)); refine box_event ?hg (N := 3) ?hd (cs := #[.int .u8 a1_0, .int .u8 a1_1]) (t := 45) ?hr ?_; (case hd => rfl); (case hg => rfl); (case hr => first | (go_simp; done) | (go_simp; rfl)); intro gb309 hg w8 hbox hb; have n0_ := Aside0.mk (below_step (by repeat (first | (with_reducible first | exact HB.out | apply below_alloc | apply pw_below_drewN | apply below_drew1) | exact HB.out)) hb); have n1_ := Aside0.mk (hbox); have n2_ := Aside0.mk ((by rw [hg]; exact (below_size (by repeat (first | (with_reducible first | exact HB.out | apply below_alloc | apply pw_below_drewN | apply below_drew1) | exact HB.out))) : w.heap.size ≤ gb309)); have n3_ := Aside0.mk ((by rw [hg]; exact (below_size (by repeat (first | (with_reducible first | exact HB.out | apply below_alloc | apply pw_below_drewN | apply below_drew1) | exact HB.out))) : w.heap.size ≤ gb309)); clear HB; have HB := n0_; have BK309 := n1_; have GW309 := n2_; have GE309 := n3_; clear n0_ n1_ n2_ n3_; clear hb hbox hg) | (go_at_call 28; (with_reducible refine (sennitlaw02_awake.calls k  t310 _ A3.out).mono ?_); rintro e w9 ⟨rfl, hb⟩; have n0_ := Aside0.mk (blk_below (g := gb309) (o := .cells #[.int .u8 a1_0, .int .u8 a1_1] 45 (0, 0)) (by (with_reducible repeat (first | refine blk_drewN ?_ _ | refine blk_drew ?_ | refine blk_alloc ?_ _)); exact BK309.out) hb); have n1_ := Aside0.mk (below_step (by repeat (first | (with_reducible first | exact HB.out | apply below_alloc | apply pw_below_drewN | apply below_drew1 | refine below_set ?_ GE309.out) | exact HB.out)) hb); clear BK309; clear HB; have BK309 := n0_; have HB := n1_; clear n0_ n1_; (try clear hb); (try clear hb2); (try clear hk); (try clear hi)) | (go_at_call 34; (with_reducible refine (sennitlaw02_few.calls k _ _ l0 true _ ?side1 ?side2 A4.out).mono ?_); (case side1 => repeat (first | exact (Kd.C_below HR0.out HB.out) | (with_reducible refine Kd.C_alloc ?_ _) | (with_reducible refine Kd.C_drewN ?_ _) | (with_reducible refine Kd.C_drew ?_))); (case side2 => exact HC0.out); rintro e w' ⟨rfl, ⟨nd, rfl⟩⟩; (try first | exact ⟨rfl, _, World.drewN_drewN _ _ _⟩ | exact ⟨rfl, _, Eq.trans (World.drewN_drewN _ _ _) (congrArg (World.drewN _) (Nat.add_assoc _ _ _))⟩)) | (go_at_call 35; (with_reducible refine (intern_All.calls k _ _ l0 t312 _ ?side1 ?side2 A6.out).mono ?_); (case side1 => repeat (first | exact (Kd.C_below HR0.out (by repeat (first | (with_reducible first | exact HB.out | apply below_alloc | apply pw_below_drewN | apply below_drew1 | refine below_set ?_ GE309.out) | exact HB.out))) | (with_reducible refine Kd.C_alloc ?_ _) | (with_reducible refine Kd.C_drewN ?_ _) | (with_reducible refine Kd.C_drew ?_))); (case side2 => exact HC0.out); rintro e w10 ⟨v313, rfl, ho0, hb⟩; have n0_ := Aside0.mk (Kd.V_lower (Kd.V_mono (ok' := fun k_ => k_ ≠ gb309) ho0 (fun k_ hk_ => (Kd.freshB (g := gb309) (o := .cells #[.int .u8 a1_0, .int .u8 a1_1] 45 (0, 0)) (by (with_reducible repeat (first | refine blk_drewN ?_ _ | refine blk_drew ?_ | refine blk_alloc ?_ _)); exact BK309.out) k_ hk_))) (below_size (by repeat (first | (with_reducible first | exact HB.out | apply below_alloc | apply pw_below_drewN | apply below_drew1 | refine below_set ?_ GE309.out) | exact HB.out)))); have n1_ := Aside0.mk (blk_below (g := gb309) (o := .cells #[.int .u8 a1_0, .int .u8 a1_1] 45 (0, 0)) (by (with_reducible repeat (first | refine blk_drewN ?_ _ | refine blk_drew ?_ | refine blk_alloc ?_ _)); exact BK309.out) hb); have n2_ := Aside0.mk (below_step (by repeat (first | (with_reducible first | exact HB.out | apply below_alloc | apply pw_below_drewN | apply below_drew1 | refine below_set ?_ GE309.out) | exact HB.out)) hb); clear BK309; clear HB; have HO314 := n0_; have BK309 := n1_; have HB := n2_; clear n0_ n1_ n2_; (try clear hb); (try clear hb2); (try clear hk); (try clear hi); (try clear ho0))); go_upto_block 0 with (first | ((with_reducible refine gate_dst (N := 3) rfl ?_); (try (refine gate_guard (by rfl) ?_; dsimp only)); refine box_event ?hg (N := 3) ?hd (cs := #[.int .u8 a1_0, .int .u8 a1_1]) (t := 45) ?hr ?_; (case hd => rfl); (case hg => rfl); (case hr => first | (go_simp; done) | (go_simp; rfl)); intro gb309 hg w8 hbox hb; have n0_ := Aside0.mk (below_step (by repeat (first | (with_reducible first | exact HB.out | apply below_alloc | apply pw_below_drewN | apply below_drew1) | exact HB.out)) hb); have n1_ := Aside0.mk (hbox); have n2_ := Aside0.mk ((by rw [hg]; exact (below_size (by repeat (first | (with_reducible first | exact HB.out | apply below_alloc | apply pw_below_drewN | apply below_drew1) | exact HB.out))) : w.heap.size ≤ gb309)); have n3_ := Aside0.mk ((by rw [hg]; exact (below_size (by repeat (first | (with_reducible first | exact HB.out | apply below_alloc | apply pw_below_drewN | apply below_drew1) | exact HB.out))) : w.heap.size ≤ gb309)); clear HB; have HB := n0_; have BK309 := n1_; have GW309 := n2_; have GE309 := n3_; clear n0_ n1_ n2_ n3_; clear hb hbox hg) | (go_at_call 28; (with_reducible refine (sennitlaw02_awake.calls k  t310 _ A3.out).mono ?_); rintro e w9 ⟨rfl, hb⟩; have n0_ := Aside0.mk (blk_below (g := gb309) (o := .cells #[.int .u8 a1_0, .int .u8 a1_1] 45 (0, 0)) (by (with_reducible repeat (first | refine blk_drewN ?_ _ | refine blk_drew ?_ | refine blk_alloc ?_ _)); exact BK309.out) hb); have n1_ := Aside0.mk (below_step (by repeat (first | (with_reducible first | exact HB.out | apply below_alloc | apply pw_below_drewN | apply below_drew1 | refine below_set ?_ GE309.out) | exact HB.out)) hb); clear BK309; clear HB; have BK309 := n0_; have HB := n1_; clear n0_ n1_; (try clear hb); (try clear hb2); (try clear hk); (try clear hi)) | (go_at_call 34; (with_reducible refine (sennitlaw02_few.calls k _ _ l0 true _ ?side1 ?side2 A4.out).mono ?_); (case side1 => repeat (first | exact (Kd.C_below HR0.out HB.out) | (with_reducible refine Kd.C_alloc ?_ _) | (with_reducible refine Kd.C_drewN ?_ _) | (with_reducible refine Kd.C_drew ?_))); (case side2 => exact HC0.out); rintro e w' ⟨rfl, ⟨nd, rfl⟩⟩; (try first | exact ⟨rfl, _, World.drewN_drewN _ _ _⟩ | exact ⟨rfl, _, Eq.trans (World.drewN_drewN _ _ _) (congrArg (World.drewN _) (Nat.add_assoc _ _ _))⟩)) | (go_at_call 35; (with_reducible refine (intern_All.calls k _ _ l0 t312 _ ?side1 ?side2 A6.out).mono ?_); (case side1 => repeat (first | exact (Kd.C_below HR0.out (by repeat (first | (with_reducible first | exact HB.out | apply below_alloc | apply pw_below_drewN | apply below_drew1 | refine below_set ?_ GE309.out) | exact HB.out))) | (with_reducible refine Kd.C_alloc ?_ _) | (with_reducible refine Kd.C_drewN ?_ _) | (with_reducible refine Kd.C_drew ?_))); (case side2 => exact HC0.out); rintro e w10 ⟨v313, rfl, ho0, hb⟩; have n0_ := Aside0.mk (Kd.V_lower (Kd.V_mono (ok' := fun k_ => k_ ≠ gb309) ho0 (fun k_ hk_ => (Kd.freshB (g := gb309) (o := .cells #[.int .u8 a1_0, .int .u8 a1_1] 45 (0, 0)) (by (with_reducible repeat (first | refine blk_drewN ?_ _ | refine blk_drew ?_ | refine blk_alloc ?_ _)); exact BK309.out) k_ hk_))) (below_size (by repeat (first | (with_reducible first | exact HB.out | apply below_alloc | apply pw_below_drewN | apply below_drew1 | refine below_set ?_ GE309.out) | exact HB.out)))); have n1_ := Aside0.mk (blk_below (g := gb309) (o := .cells #[.int .u8 a1_0, .int .u8 a1_1] 45 (0, 0)) (by (with_reducible repeat (first | refine blk_drewN ?_ _ | refine blk_drew ?_ | refine blk_alloc ?_ _)); exact BK309.out) hb); have n2_ := Aside0.mk (below_step (by repeat (first | (with_reducible first | exact HB.out | apply below_alloc | apply pw_below_drewN | apply below_drew1 | refine below_set ?_ GE309.out) | exact HB.out)) hb); clear BK309; clear HB; have HO314 := n0_; have BK309 := n1_; have HB := n2_; clear n0_ n1_ n2_; (try clear hb); (try clear hb2); (try clear hk); (try clear hi); (try clear ho0))))
    (try simp only [Act.put, List.setIfInBounds_toArray, List.set_cons_zero, List.set_cons_succ])
    go_cut [7, 8] (fun v7 v8 wc => ∃ (kq : Nat) (x7_6 : List ByteArray) (x8_6 : List Int), Aside0 (sennitlaw02_InternSame.j1 kq t310 x7_6 x8_6 a1_0 a1_1 = some r) ∧ Aside0 (kq ≤ k) ∧ Aside0 (Kd.R Kd.string 9 wc w.heap.size (fun _ => True) v7 x7_6) ∧ Aside0 (Kd.R (Kd.int .i64) 3 wc w.heap.size (fun _ => True) v8 x8_6) ∧ Aside0 (wc.heap[gb309]? = some (.cells #[.int .u8 a1_0, .int .u8 a1_1] 45 (0, 0))) ∧ Aside0 (Below w.heap.size w wc))
    case first =>
      have H := HC7.out
      clear HC7
      have H' := Aside0.mk H
      clear H
      go_wp2
      repeat (go_quiet (fail); try go_wp2)
      go_loopg [7, 8, 9] k (fun kq v7 v8 v9 w' => ∃ (x7_1 : List ByteArray) (x8_1 : List Int) (x9_1 : Int), v9 = .int .i64 x9_1 ∧ Aside0 (sennitlaw02_InternSame.l0 kq l0 t310 t312 x7_1 x8_1 x9_1 a1_0 a1_1 = some r) ∧ Aside0 (kq ≤ k) ∧ Aside0 (Kd.V (Kd.slice 3 (Kd.int .i64)) 44 w' w.heap.size (fun k_ => some k_ ≠ (v7 : Value).ownBlock ∧ some k_ ≠ (v8 : Value).ownBlock ∧ k_ ≠ gb309) v313 t312) ∧ Aside0 (Kd.R Kd.string 9 w' w.heap.size (fun _ => True) v7 x7_1) ∧ Aside0 (Kd.R (Kd.int .i64) 3 w' w.heap.size (fun _ => True) v8 x8_1) ∧ Aside0 (w'.heap[gb309]? = some (.cells #[.int .u8 a1_0, .int .u8 a1_1] 45 (0, 0))) ∧ Aside0 (Below w.heap.size w w'))
      case atStart => exact ⟨(([] : List ByteArray)), (([] : List Int)), (0), (by first | rfl | (simp; done) | (simp [*]; done)), H', ⟨Nat.le_refl _⟩, ⟨by (with_reducible repeat (first | apply Kd.V_alloc | apply Kd.V_drewN | apply Kd.V_drew)); exact Kd.V_mono HO314.out (fun _ hk => ⟨(by simp [Value.ownBlock]), ⟨(by simp [Value.ownBlock]), hk⟩⟩)⟩, ⟨by first | exact Kd.R_nil _ _ _ _ _ | exact Kd.N_nil _ _ _ _ _ | exact Kd.V_nil _ _ _ _ _ | exact Kd.Q_nil _ _ _ _ _ | exact Kd.S_nil _ _ _ _ _⟩, ⟨by first | exact Kd.R_nil _ _ _ _ _ | exact Kd.N_nil _ _ _ _ _ | exact Kd.V_nil _ _ _ _ _ | exact Kd.Q_nil _ _ _ _ _ | exact Kd.S_nil _ _ _ _ _⟩, ⟨by (with_reducible repeat (first | refine blk_drewN ?_ _ | refine blk_drew ?_ | refine blk_alloc ?_ _)); exact BK309.out⟩, ⟨by repeat (first | (with_reducible first | exact HB.out | apply below_alloc | apply pw_below_drewN | apply below_drew1 | refine below_set ?_ GE309.out) | exact HB.out)⟩⟩
      case round =>
        clear H'
        try clear c1
        try clear p2
        try clear c5
        try clear c10
        obtain ⟨x7_1, x8_1, x9_1, rfl, HA, HK1, HO_6, HO_7, HO_8, BK309, HB⟩ := hrel
        cases gk with
        | zero => exact absurd HA.out (by simp [sennitlaw02_InternSame.l0])
        | succ k1 =>
          have H := HA.out
          clear HA
          simp only [sennitlaw02_InternSame.l0] at H
          by_cases c11 : x9_1 < (l0.length : Int)
          · rw [if_pos c11] at H
            have c11b0 : decide (x9_1 < (l0.length : Int)) = true := decide_eq_true c11
            clear c11
            (first | rw [c11b0] | (simp only [i64_w, i32_w]; rw [c11b0]) | skip)
            by_cases c12 : x9_1 < (t312.length : Int)
            · rw [if_pos c12] at H
              have c12b0 : decide (x9_1 < (t312.length : Int)) = true := decide_eq_true c12
              clear c12
              by_cases c13 : 0 ≤ x9_1
              · rw [if_pos c13] at H
                have c13b0 : decide (0 ≤ x9_1) = true := decide_eq_true c13
                clear c13
                by_cases c14 : x7_1.length + (rd_L1 l0 x9_1).length < 8796093022208
                · rw [if_pos c14] at H
                  have LMc14 := Aside0.mk c14
                  clear c14
                  obtain ⟨y316, hy316⟩ : ∃ y_ : List ByteArray, y_ = (x7_1 ++ (rd_L1 l0 x9_1)) := ⟨_, rfl⟩
                  replace H : (if x8_1.length + (rd_L5 t312 x9_1).length < 17592186044416 then (sennitlaw02_InternSame.l0 k1 l0 t310 t312 y316 (x8_1 ++ (rd_L5 t312 x9_1)) (wrap64 (x9_1 + 1)) a1_0 a1_1) else (none)) = some r := by first | (rw [hy316]; with_reducible exact H) | (have H2_ := (Option.bind_some _ _).symm.trans H; rw [hy316]; with_reducible exact H2_) | (have H2_ := (Option.bind_some _ _).symm.trans H; with_reducible exact H2_) | with_reducible exact H | (rw [hy316]; exact H) | exact H
                  have Ny316 := Aside0.mk hy316
                  clear hy316
                  by_cases c15 : x8_1.length + (rd_L5 t312 x9_1).length < 17592186044416
                  · rw [if_pos c15] at H
                    have LMc15 := Aside0.mk c15
                    clear c15
                    obtain ⟨y320, hy320⟩ : ∃ y_ : List Int, y_ = (x8_1 ++ (rd_L5 t312 x9_1)) := ⟨_, rfl⟩
                    replace H : (sennitlaw02_InternSame.l0 k1 l0 t310 t312 y316 y320 (wrap64 (x9_1 + 1)) a1_0 a1_1) = some r := by first | (rw [hy320]; with_reducible exact H) | (have H2_ := (Option.bind_some _ _).symm.trans H; rw [hy320]; with_reducible exact H2_) | (have H2_ := (Option.bind_some _ _).symm.trans H; with_reducible exact H2_) | with_reducible exact H | (rw [hy320]; exact H) | exact H
                    have Ny320 := Aside0.mk hy320
                    clear hy320
                    have H' := Aside0.mk H
                    clear H
                    obtain ⟨Ao16, co16, eo16⟩ := Kd.V_slice HO_6.out
                    subst eo16
                    have p315 : 0 ≤ (x9_1 : Int) := of_decide_eq_true (by first | (with_reducible assumption) | assumption)
                    have q315 : x9_1 < (l0.length : Int) := of_decide_eq_true (by first | (with_reducible assumption) | assumption)
                    obtain ⟨ad315, A315_0, c315_0, e315, hx315_0, hl315_0, hi315_0⟩ := at_L1 HR0.out x9_1 p315 q315
                    cases e315
                    replace hx315_0 := (HB.out.cell (World.block_lt_of_cell? w _ hx315_0)).trans hx315_0
                    have HR315_0 := Aside0.mk hi315_0
                    have HC315_0 := Aside0.mk hl315_0
                    clear hi315_0 hl315_0
                    replace p315 := eq_true p315
                    replace q315 := eq_true q315
                    go_wp2_with (first | ((with_reducible refine gate_builtin (b := .append) (xs := #[.tmp 31, .tmp 35]) rfl ?_); (try (refine gate_guard (by rfl) ?_; dsimp only)); at_builtin; refine Kd.R_append_rows Kd.string (w0 := w) w.heap.size rfl (.tmp 31) (.tmp 35) 22 9 (.string ⟨#[]⟩) 16 rfl Try.underlying22 info9 rfl (by decide) (by omega) u7 x7_1 (rd_L1 l0 x9_1) _ _ _ (fun _ => True) (fun _ => False) rfl rfl ?aO ?aR (fun _ _ h => h) (fun _ h => h.elim) ?aF ?aB ?aS ?aL ?_; (case aR => repeat (first | exact (Kd.C_below HR315_0.out HB.out) | (with_reducible refine Kd.C_alloc ?_ _) | (with_reducible refine Kd.C_drewN ?_ _) | (with_reducible refine Kd.C_drew ?_))); (case aB => exact (by repeat (first | (with_reducible first | exact HB.out | apply below_alloc | apply pw_below_drewN | apply below_drew1 | refine below_set ?_ GE309.out) | exact HB.out))); (case aF => exact (fun _ _ => trivial)); (case aO => exact (by (with_reducible repeat (first | apply Kd.R_alloc | apply Kd.R_drewN | apply Kd.R_drew)); exact HO_7.out)); (case aS => exact (below_size (by repeat (first | (with_reducible first | exact HB.out | apply below_alloc | apply pw_below_drewN | apply below_drew1 | refine below_set ?_ GE309.out) | exact HB.out)))); (case aL => have := LMc14.out; omega); intro v317 w17 ho hb hg hat; rw [← Ny316.out] at ho; have n0_ := Aside0.mk (Kd.V_afterv (ok := (fun k_ => some k_ ≠ (u8 : Value).ownBlock ∧ k_ ≠ gb309)) (by (with_reducible repeat (first | apply Kd.V_alloc | apply Kd.V_drewN | apply Kd.V_drew)); exact Kd.V_mono HO_6.out (fun _ hk => ⟨⟨hk.2.1, hk.2.2⟩, hk.1⟩)) hg hat); have n1_ := Aside0.mk (Kd.R_over' (by (with_reducible repeat (first | apply Kd.R_alloc | apply Kd.R_drewN | apply Kd.R_drew)); exact HO_8.out) (Kd.R_typed (by (with_reducible repeat (first | apply Kd.R_alloc | apply Kd.R_drewN | apply Kd.R_drew)); exact HO_7.out)) (by decide) hg); have n2_ := Aside0.mk (blk_grown (g := gb309) (o := .cells #[.int .u8 a1_0, .int .u8 a1_1] 45 (0, 0)) (by (with_reducible repeat (first | refine blk_drewN ?_ _ | refine blk_drew ?_ | refine blk_alloc ?_ _)); exact BK309.out) hg (Kd.R_ne HO_7.out BK309.out (by decide))); have n3_ := Aside0.mk (hb); have n4_ := Aside0.mk (ho); clear HO_6; clear HO_8; clear BK309; clear HB; clear HO_7; have HO_6 := n0_; have HO_8 := n1_; have BK309 := n2_; have HB := n3_; have HO318 := n4_; clear n0_ n1_ n2_ n3_ n4_; clear ho hb hg hat; have p319 : 0 ≤ (x9_1 : Int) := of_decide_eq_true (by first | (with_reducible assumption) | assumption); have q319 : x9_1 < (t312.length : Int) := of_decide_eq_true (by first | (with_reducible assumption) | assumption); obtain ⟨ad319, A319_0, c319_0, e319, hx319_0, hl319_0, hi319_0⟩ := at_L5 (Kd.V_reads' HO_6.out).2.2 x9_1 p319 q319; cases e319; obtain ⟨ce319, hce319, hMe319, hcc319⟩ := Kd.V_get HO_6.out [] x9_1 p319 (by first | exact q319 | exact of_decide_eq_true (by first | (with_reducible assumption) | assumption) | (have e_ := (Kd.V_reads' HO_6.out).1; omega)); obtain ⟨ua319_0, uc319_0, rfl, ul319_0, ge319_0⟩ := Kd.FK_slice_open hMe319; have hv319_0 := hcc319 0 _ rfl; rw [Nat.add_zero, show ((Kd.slice 3 (Kd.int .i64))).sz = 1 from rfl, Nat.mul_one] at hv319_0; replace hv319_0 := Option.some.inj (hv319_0.symm.trans hx319_0); injection hv319_0 with hva_ hvn_ hvc_; rw [hva_] at ge319_0; rw [hvc_] at ul319_0; have HL319_0 := Aside0.mk (show Kd.V (Kd.int .i64) 3 _ w.heap.size _ _ (rd_L5 t312 x9_1) from Kd.V_mk ul319_0 ge319_0); clear hva_ hvn_ hvc_ ge319_0 ul319_0; clear hcc319 hce319; have HR319_0 := Aside0.mk hi319_0; have HC319_0 := Aside0.mk hl319_0; clear hi319_0 hl319_0; replace p319 := eq_true p319; replace q319 := eq_true q319) | ((with_reducible refine gate_builtin (b := .append) (xs := #[.tmp 37, .tmp 41]) rfl ?_); (try (refine gate_guard (by rfl) ?_; dsimp only)); at_builtin; refine Kd.R_append_rows (Kd.int .i64) (w0 := w) w.heap.size rfl (.tmp 37) (.tmp 41) 44 3 (.int .i64 0) 8 rfl Try.underlying44 info3 rfl (by decide) (by omega) u8 x8_1 (rd_L5 t312 x9_1) _ _ _ (fun _ => True) (fun _ => False) rfl rfl ?aO ?aR (fun _ _ h => h) (fun _ h => h.elim) ?aF ?aB ?aS ?aL ?_; (case aR => repeat (first | exact (by repeat (first | (with_reducible exact HR319_0.out) | (with_reducible refine Kd.C_alloc ?_ _) | (with_reducible refine Kd.C_drewN ?_ _) | (with_reducible refine Kd.C_drew ?_) | exact HR319_0.out)) | (with_reducible refine Kd.C_alloc ?_ _) | (with_reducible refine Kd.C_drewN ?_ _) | (with_reducible refine Kd.C_drew ?_))); (case aB => exact (by repeat (first | (with_reducible first | exact HB.out | apply below_alloc | apply pw_below_drewN | apply below_drew1 | refine below_set ?_ GE309.out) | exact HB.out))); (case aF => exact (fun _ _ => trivial)); (case aO => exact (by (with_reducible repeat (first | apply Kd.R_alloc | apply Kd.R_drewN | apply Kd.R_drew)); exact HO_8.out)); (case aS => exact (below_size (by repeat (first | (with_reducible first | exact HB.out | apply below_alloc | apply pw_below_drewN | apply below_drew1 | refine below_set ?_ GE309.out) | exact HB.out)))); (case aL => have := LMc15.out; omega); intro v321 w18 ho hb hg hat; rw [← Ny320.out] at ho; have n0_ := Aside0.mk (Kd.V_afterv (ok := (fun k_ => some k_ ≠ (v317 : Value).ownBlock ∧ k_ ≠ gb309)) (by (with_reducible repeat (first | apply Kd.V_alloc | apply Kd.V_drewN | apply Kd.V_drew)); exact Kd.V_mono HO_6.out (fun _ hk => ⟨⟨hk.2, hk.1.2⟩, hk.1.1⟩)) hg hat); have n1_ := Aside0.mk (blk_grown (g := gb309) (o := .cells #[.int .u8 a1_0, .int .u8 a1_1] 45 (0, 0)) (by (with_reducible repeat (first | refine blk_drewN ?_ _ | refine blk_drew ?_ | refine blk_alloc ?_ _)); exact BK309.out) hg (Kd.R_ne HO_8.out BK309.out (by decide))); have n2_ := Aside0.mk (Kd.R_over' (by (with_reducible repeat (first | apply Kd.R_alloc | apply Kd.R_drewN | apply Kd.R_drew)); exact HO318.out) (Kd.R_typed (by (with_reducible repeat (first | apply Kd.R_alloc | apply Kd.R_drewN | apply Kd.R_drew)); exact HO_8.out)) (by decide) hg); have n3_ := Aside0.mk (Kd.V_afterv (ok := (fun k_ => some k_ ≠ (v317 : Value).ownBlock ∧ k_ ≠ gb309)) (by (with_reducible repeat (first | apply Kd.V_alloc | apply Kd.V_drewN | apply Kd.V_drew)); exact Kd.V_mono HL319_0.out (fun _ hk => ⟨⟨hk.2, hk.1.2⟩, hk.1.1⟩)) hg hat); have n4_ := Aside0.mk (hb); have n5_ := Aside0.mk (ho); clear HO_6; clear BK309; clear HO318; clear HL319_0; clear HB; clear HO_8; have HO_6 := n0_; have BK309 := n1_; have HO318 := n2_; have HL319_0 := n3_; have HB := n4_; have HO322 := n5_; clear n0_ n1_ n2_ n3_ n4_ n5_; clear ho hb hg hat))
                    repeat (go_quiet (first | ((with_reducible refine gate_builtin (b := .append) (xs := #[.tmp 31, .tmp 35]) rfl ?_); (try (refine gate_guard (by rfl) ?_; dsimp only)); at_builtin; refine Kd.R_append_rows Kd.string (w0 := w) w.heap.size rfl (.tmp 31) (.tmp 35) 22 9 (.string ⟨#[]⟩) 16 rfl Try.underlying22 info9 rfl (by decide) (by omega) u7 x7_1 (rd_L1 l0 x9_1) _ _ _ (fun _ => True) (fun _ => False) rfl rfl ?aO ?aR (fun _ _ h => h) (fun _ h => h.elim) ?aF ?aB ?aS ?aL ?_; (case aR => repeat (first | exact (Kd.C_below HR315_0.out HB.out) | (with_reducible refine Kd.C_alloc ?_ _) | (with_reducible refine Kd.C_drewN ?_ _) | (with_reducible refine Kd.C_drew ?_))); (case aB => exact (by repeat (first | (with_reducible first | exact HB.out | apply below_alloc | apply pw_below_drewN | apply below_drew1 | refine below_set ?_ GE309.out) | exact HB.out))); (case aF => exact (fun _ _ => trivial)); (case aO => exact (by (with_reducible repeat (first | apply Kd.R_alloc | apply Kd.R_drewN | apply Kd.R_drew)); exact HO_7.out)); (case aS => exact (below_size (by repeat (first | (with_reducible first | exact HB.out | apply below_alloc | apply pw_below_drewN | apply below_drew1 | refine below_set ?_ GE309.out) | exact HB.out)))); (case aL => have := LMc14.out; omega); intro v317 w17 ho hb hg hat; rw [← Ny316.out] at ho; have n0_ := Aside0.mk (Kd.V_afterv (ok := (fun k_ => some k_ ≠ (u8 : Value).ownBlock ∧ k_ ≠ gb309)) (by (with_reducible repeat (first | apply Kd.V_alloc | apply Kd.V_drewN | apply Kd.V_drew)); exact Kd.V_mono HO_6.out (fun _ hk => ⟨⟨hk.2.1, hk.2.2⟩, hk.1⟩)) hg hat); have n1_ := Aside0.mk (Kd.R_over' (by (with_reducible repeat (first | apply Kd.R_alloc | apply Kd.R_drewN | apply Kd.R_drew)); exact HO_8.out) (Kd.R_typed (by (with_reducible repeat (first | apply Kd.R_alloc | apply Kd.R_drewN | apply Kd.R_drew)); exact HO_7.out)) (by decide) hg); have n2_ := Aside0.mk (blk_grown (g := gb309) (o := .cells #[.int .u8 a1_0, .int .u8 a1_1] 45 (0, 0)) (by (with_reducible repeat (first | refine blk_drewN ?_ _ | refine blk_drew ?_ | refine blk_alloc ?_ _)); exact BK309.out) hg (Kd.R_ne HO_7.out BK309.out (by decide))); have n3_ := Aside0.mk (hb); have n4_ := Aside0.mk (ho); clear HO_6; clear HO_8; clear BK309; clear HB; clear HO_7; have HO_6 := n0_; have HO_8 := n1_; have BK309 := n2_; have HB := n3_; have HO318 := n4_; clear n0_ n1_ n2_ n3_ n4_; clear ho hb hg hat; have p319 : 0 ≤ (x9_1 : Int) := of_decide_eq_true (by first | (with_reducible assumption) | assumption); have q319 : x9_1 < (t312.length : Int) := of_decide_eq_true (by first | (with_reducible assumption) | assumption); obtain ⟨ad319, A319_0, c319_0, e319, hx319_0, hl319_0, hi319_0⟩ := at_L5 (Kd.V_reads' HO_6.out).2.2 x9_1 p319 q319; cases e319; obtain ⟨ce319, hce319, hMe319, hcc319⟩ := Kd.V_get HO_6.out [] x9_1 p319 (by first | exact q319 | exact of_decide_eq_true (by first | (with_reducible assumption) | assumption) | (have e_ := (Kd.V_reads' HO_6.out).1; omega)); obtain ⟨ua319_0, uc319_0, rfl, ul319_0, ge319_0⟩ := Kd.FK_slice_open hMe319; have hv319_0 := hcc319 0 _ rfl; rw [Nat.add_zero, show ((Kd.slice 3 (Kd.int .i64))).sz = 1 from rfl, Nat.mul_one] at hv319_0; replace hv319_0 := Option.some.inj (hv319_0.symm.trans hx319_0); injection hv319_0 with hva_ hvn_ hvc_; rw [hva_] at ge319_0; rw [hvc_] at ul319_0; have HL319_0 := Aside0.mk (show Kd.V (Kd.int .i64) 3 _ w.heap.size _ _ (rd_L5 t312 x9_1) from Kd.V_mk ul319_0 ge319_0); clear hva_ hvn_ hvc_ ge319_0 ul319_0; clear hcc319 hce319; have HR319_0 := Aside0.mk hi319_0; have HC319_0 := Aside0.mk hl319_0; clear hi319_0 hl319_0; replace p319 := eq_true p319; replace q319 := eq_true q319) | ((with_reducible refine gate_builtin (b := .append) (xs := #[.tmp 37, .tmp 41]) rfl ?_); (try (refine gate_guard (by rfl) ?_; dsimp only)); at_builtin; refine Kd.R_append_rows (Kd.int .i64) (w0 := w) w.heap.size rfl (.tmp 37) (.tmp 41) 44 3 (.int .i64 0) 8 rfl Try.underlying44 info3 rfl (by decide) (by omega) u8 x8_1 (rd_L5 t312 x9_1) _ _ _ (fun _ => True) (fun _ => False) rfl rfl ?aO ?aR (fun _ _ h => h) (fun _ h => h.elim) ?aF ?aB ?aS ?aL ?_; (case aR => repeat (first | exact (by repeat (first | (with_reducible exact HR319_0.out) | (with_reducible refine Kd.C_alloc ?_ _) | (with_reducible refine Kd.C_drewN ?_ _) | (with_reducible refine Kd.C_drew ?_) | exact HR319_0.out)) | (with_reducible refine Kd.C_alloc ?_ _) | (with_reducible refine Kd.C_drewN ?_ _) | (with_reducible refine Kd.C_drew ?_))); (case aB => exact (by repeat (first | (with_reducible first | exact HB.out | apply below_alloc | apply pw_below_drewN | apply below_drew1 | refine below_set ?_ GE309.out) | exact HB.out))); (case aF => exact (fun _ _ => trivial)); (case aO => exact (by (with_reducible repeat (first | apply Kd.R_alloc | apply Kd.R_drewN | apply Kd.R_drew)); exact HO_8.out)); (case aS => exact (below_size (by repeat (first | (with_reducible first | exact HB.out | apply below_alloc | apply pw_below_drewN | apply below_drew1 | refine below_set ?_ GE309.out) | exact HB.out)))); (case aL => have := LMc15.out; omega); intro v321 w18 ho hb hg hat; rw [← Ny320.out] at ho; have n0_ := Aside0.mk (Kd.V_afterv (ok := (fun k_ => some k_ ≠ (v317 : Value).ownBlock ∧ k_ ≠ gb309)) (by (with_reducible repeat (first | apply Kd.V_alloc | apply Kd.V_drewN | apply Kd.V_drew)); exact Kd.V_mono HO_6.out (fun _ hk => ⟨⟨hk.2, hk.1.2⟩, hk.1.1⟩)) hg hat); have n1_ := Aside0.mk (blk_grown (g := gb309) (o := .cells #[.int .u8 a1_0, .int .u8 a1_1] 45 (0, 0)) (by (with_reducible repeat (first | refine blk_drewN ?_ _ | refine blk_drew ?_ | refine blk_alloc ?_ _)); exact BK309.out) hg (Kd.R_ne HO_8.out BK309.out (by decide))); have n2_ := Aside0.mk (Kd.R_over' (by (with_reducible repeat (first | apply Kd.R_alloc | apply Kd.R_drewN | apply Kd.R_drew)); exact HO318.out) (Kd.R_typed (by (with_reducible repeat (first | apply Kd.R_alloc | apply Kd.R_drewN | apply Kd.R_drew)); exact HO_8.out)) (by decide) hg); have n3_ := Aside0.mk (Kd.V_afterv (ok := (fun k_ => some k_ ≠ (v317 : Value).ownBlock ∧ k_ ≠ gb309)) (by (with_reducible repeat (first | apply Kd.V_alloc | apply Kd.V_drewN | apply Kd.V_drew)); exact Kd.V_mono HL319_0.out (fun _ hk => ⟨⟨hk.2, hk.1.2⟩, hk.1.1⟩)) hg hat); have n4_ := Aside0.mk (hb); have n5_ := Aside0.mk (ho); clear HO_6; clear BK309; clear HO318; clear HL319_0; clear HB; clear HO_8; have HO_6 := n0_; have BK309 := n1_; have HO318 := n2_; have HL319_0 := n3_; have HB := n4_; have HO322 := n5_; clear n0_ n1_ n2_ n3_ n4_ n5_; clear ho hb hg hat)); try go_wp2_with (first | ((with_reducible refine gate_builtin (b := .append) (xs := #[.tmp 31, .tmp 35]) rfl ?_); (try (refine gate_guard (by rfl) ?_; dsimp only)); at_builtin; refine Kd.R_append_rows Kd.string (w0 := w) w.heap.size rfl (.tmp 31) (.tmp 35) 22 9 (.string ⟨#[]⟩) 16 rfl Try.underlying22 info9 rfl (by decide) (by omega) u7 x7_1 (rd_L1 l0 x9_1) _ _ _ (fun _ => True) (fun _ => False) rfl rfl ?aO ?aR (fun _ _ h => h) (fun _ h => h.elim) ?aF ?aB ?aS ?aL ?_; (case aR => repeat (first | exact (Kd.C_below HR315_0.out HB.out) | (with_reducible refine Kd.C_alloc ?_ _) | (with_reducible refine Kd.C_drewN ?_ _) | (with_reducible refine Kd.C_drew ?_))); (case aB => exact (by repeat (first | (with_reducible first | exact HB.out | apply below_alloc | apply pw_below_drewN | apply below_drew1 | refine below_set ?_ GE309.out) | exact HB.out))); (case aF => exact (fun _ _ => trivial)); (case aO => exact (by (with_reducible repeat (first | apply Kd.R_alloc | apply Kd.R_drewN | apply Kd.R_drew)); exact HO_7.out)); (case aS => exact (below_size (by repeat (first | (with_reducible first | exact HB.out | apply below_alloc | apply pw_below_drewN | apply below_drew1 | refine below_set ?_ GE309.out) | exact HB.out)))); (case aL => have := LMc14.out; omega); intro v317 w17 ho hb hg hat; rw [← Ny316.out] at ho; have n0_ := Aside0.mk (Kd.V_afterv (ok := (fun k_ => some k_ ≠ (u8 : Value).ownBlock ∧ k_ ≠ gb309)) (by (with_reducible repeat (first | apply Kd.V_alloc | apply Kd.V_drewN | apply Kd.V_drew)); exact Kd.V_mono HO_6.out (fun _ hk => ⟨⟨hk.2.1, hk.2.2⟩, hk.1⟩)) hg hat); have n1_ := Aside0.mk (Kd.R_over' (by (with_reducible repeat (first | apply Kd.R_alloc | apply Kd.R_drewN | apply Kd.R_drew)); exact HO_8.out) (Kd.R_typed (by (with_reducible repeat (first | apply Kd.R_alloc | apply Kd.R_drewN | apply Kd.R_drew)); exact HO_7.out)) (by decide) hg); have n2_ := Aside0.mk (blk_grown (g := gb309) (o := .cells #[.int .u8 a1_0, .int .u8 a1_1] 45 (0, 0)) (by (with_reducible repeat (first | refine blk_drewN ?_ _ | refine blk_drew ?_ | refine blk_alloc ?_ _)); exact BK309.out) hg (Kd.R_ne HO_7.out BK309.out (by decide))); have n3_ := Aside0.mk (hb); have n4_ := Aside0.mk (ho); clear HO_6; clear HO_8; clear BK309; clear HB; clear HO_7; have HO_6 := n0_; have HO_8 := n1_; have BK309 := n2_; have HB := n3_; have HO318 := n4_; clear n0_ n1_ n2_ n3_ n4_; clear ho hb hg hat; have p319 : 0 ≤ (x9_1 : Int) := of_decide_eq_true (by first | (with_reducible assumption) | assumption); have q319 : x9_1 < (t312.length : Int) := of_decide_eq_true (by first | (with_reducible assumption) | assumption); obtain ⟨ad319, A319_0, c319_0, e319, hx319_0, hl319_0, hi319_0⟩ := at_L5 (Kd.V_reads' HO_6.out).2.2 x9_1 p319 q319; cases e319; obtain ⟨ce319, hce319, hMe319, hcc319⟩ := Kd.V_get HO_6.out [] x9_1 p319 (by first | exact q319 | exact of_decide_eq_true (by first | (with_reducible assumption) | assumption) | (have e_ := (Kd.V_reads' HO_6.out).1; omega)); obtain ⟨ua319_0, uc319_0, rfl, ul319_0, ge319_0⟩ := Kd.FK_slice_open hMe319; have hv319_0 := hcc319 0 _ rfl; rw [Nat.add_zero, show ((Kd.slice 3 (Kd.int .i64))).sz = 1 from rfl, Nat.mul_one] at hv319_0; replace hv319_0 := Option.some.inj (hv319_0.symm.trans hx319_0); injection hv319_0 with hva_ hvn_ hvc_; rw [hva_] at ge319_0; rw [hvc_] at ul319_0; have HL319_0 := Aside0.mk (show Kd.V (Kd.int .i64) 3 _ w.heap.size _ _ (rd_L5 t312 x9_1) from Kd.V_mk ul319_0 ge319_0); clear hva_ hvn_ hvc_ ge319_0 ul319_0; clear hcc319 hce319; have HR319_0 := Aside0.mk hi319_0; have HC319_0 := Aside0.mk hl319_0; clear hi319_0 hl319_0; replace p319 := eq_true p319; replace q319 := eq_true q319) | ((with_reducible refine gate_builtin (b := .append) (xs := #[.tmp 37, .tmp 41]) rfl ?_); (try (refine gate_guard (by rfl) ?_; dsimp only)); at_builtin; refine Kd.R_append_rows (Kd.int .i64) (w0 := w) w.heap.size rfl (.tmp 37) (.tmp 41) 44 3 (.int .i64 0) 8 rfl Try.underlying44 info3 rfl (by decide) (by omega) u8 x8_1 (rd_L5 t312 x9_1) _ _ _ (fun _ => True) (fun _ => False) rfl rfl ?aO ?aR (fun _ _ h => h) (fun _ h => h.elim) ?aF ?aB ?aS ?aL ?_; (case aR => repeat (first | exact (by repeat (first | (with_reducible exact HR319_0.out) | (with_reducible refine Kd.C_alloc ?_ _) | (with_reducible refine Kd.C_drewN ?_ _) | (with_reducible refine Kd.C_drew ?_) | exact HR319_0.out)) | (with_reducible refine Kd.C_alloc ?_ _) | (with_reducible refine Kd.C_drewN ?_ _) | (with_reducible refine Kd.C_drew ?_))); (case aB => exact (by repeat (first | (with_reducible first | exact HB.out | apply below_alloc | apply pw_below_drewN | apply below_drew1 | refine below_set ?_ GE309.out) | exact HB.out))); (case aF => exact (fun _ _ => trivial)); (case aO => exact (by (with_reducible repeat (first | apply Kd.R_alloc | apply Kd.R_drewN | apply Kd.R_drew)); exact HO_8.out)); (case aS => exact (below_size (by repeat (first | (with_reducible first | exact HB.out | apply below_alloc | apply pw_below_drewN | apply below_drew1 | refine below_set ?_ GE309.out) | exact HB.out)))); (case aL => have := LMc15.out; omega); intro v321 w18 ho hb hg hat; rw [← Ny320.out] at ho; have n0_ := Aside0.mk (Kd.V_afterv (ok := (fun k_ => some k_ ≠ (v317 : Value).ownBlock ∧ k_ ≠ gb309)) (by (with_reducible repeat (first | apply Kd.V_alloc | apply Kd.V_drewN | apply Kd.V_drew)); exact Kd.V_mono HO_6.out (fun _ hk => ⟨⟨hk.2, hk.1.2⟩, hk.1.1⟩)) hg hat); have n1_ := Aside0.mk (blk_grown (g := gb309) (o := .cells #[.int .u8 a1_0, .int .u8 a1_1] 45 (0, 0)) (by (with_reducible repeat (first | refine blk_drewN ?_ _ | refine blk_drew ?_ | refine blk_alloc ?_ _)); exact BK309.out) hg (Kd.R_ne HO_8.out BK309.out (by decide))); have n2_ := Aside0.mk (Kd.R_over' (by (with_reducible repeat (first | apply Kd.R_alloc | apply Kd.R_drewN | apply Kd.R_drew)); exact HO318.out) (Kd.R_typed (by (with_reducible repeat (first | apply Kd.R_alloc | apply Kd.R_drewN | apply Kd.R_drew)); exact HO_8.out)) (by decide) hg); have n3_ := Aside0.mk (Kd.V_afterv (ok := (fun k_ => some k_ ≠ (v317 : Value).ownBlock ∧ k_ ≠ gb309)) (by (with_reducible repeat (first | apply Kd.V_alloc | apply Kd.V_drewN | apply Kd.V_drew)); exact Kd.V_mono HL319_0.out (fun _ hk => ⟨⟨hk.2, hk.1.2⟩, hk.1.1⟩)) hg hat); have n4_ := Aside0.mk (hb); have n5_ := Aside0.mk (ho); clear HO_6; clear BK309; clear HO318; clear HL319_0; clear HB; clear HO_8; have HO_6 := n0_; have BK309 := n1_; have HO318 := n2_; have HL319_0 := n3_; have HB := n4_; have HO322 := n5_; clear n0_ n1_ n2_ n3_ n4_ n5_; clear ho hb hg hat)))
                    go_roundg k1
                    case measure => have := HK1.out; omega
                    case rel => exact ⟨(y316), (y320), (wrap64 (x9_1 + 1)), (by first | rfl | (simp; done) | (simp [*]; done)), H', ⟨by have := HK1.out; omega⟩, ⟨by (with_reducible repeat (first | apply Kd.V_alloc | apply Kd.V_drewN | apply Kd.V_drew)); exact Kd.V_mono HO_6.out (fun _ hk => ⟨hk.1.1, ⟨hk.2, hk.1.2⟩⟩)⟩, ⟨by (with_reducible repeat (first | apply Kd.R_alloc | apply Kd.R_drewN | apply Kd.R_drew)); exact HO318.out⟩, ⟨by (with_reducible repeat (first | apply Kd.R_alloc | apply Kd.R_drewN | apply Kd.R_drew)); exact HO322.out⟩, ⟨by (with_reducible repeat (first | refine blk_drewN ?_ _ | refine blk_drew ?_ | refine blk_alloc ?_ _)); exact BK309.out⟩, ⟨by repeat (first | (with_reducible first | exact HB.out | apply below_alloc | apply pw_below_drewN | apply below_drew1 | refine below_set ?_ GE309.out) | exact HB.out)⟩⟩
                  · rw [if_neg c15] at H
                    exact absurd H (by simp)
                · rw [if_neg c14] at H
                  exact absurd H (by simp)
              · rw [if_neg c13] at H
                exact absurd H (by simp)
            · rw [if_neg c12] at H
              have c12b0 : decide (x9_1 < (t312.length : Int)) = false := decide_eq_false c12
              clear c12
              have H' := Aside0.mk H
              clear H
              obtain ⟨Ao19, co19, eo19⟩ := Kd.V_slice HO_6.out
              subst eo19
              go_wp2
              repeat (go_quiet (fail); try go_wp2)
              go_meet
              case rel => exact ⟨_, (x7_1), (x8_1), H', ⟨by have := HK1.out; first | omega | exact Nat.le_refl _⟩, ⟨by (with_reducible repeat (first | apply Kd.R_alloc | apply Kd.R_drewN | apply Kd.R_drew)); exact HO_7.out⟩, ⟨by (with_reducible repeat (first | apply Kd.R_alloc | apply Kd.R_drewN | apply Kd.R_drew)); exact HO_8.out⟩, ⟨by (with_reducible repeat (first | refine blk_drewN ?_ _ | refine blk_drew ?_ | refine blk_alloc ?_ _)); exact BK309.out⟩, ⟨by repeat (first | (with_reducible first | exact HB.out | apply below_alloc | apply pw_below_drewN | apply below_drew1 | refine below_set ?_ GE309.out) | exact HB.out)⟩⟩
          · rw [if_neg c11] at H
            have c11b0 : decide (x9_1 < (l0.length : Int)) = false := decide_eq_false c11
            clear c11
            (first | rw [c11b0] | (simp only [i64_w, i32_w]; rw [c11b0]) | skip)
            have H' := Aside0.mk H
            clear H
            go_wp2
            repeat (go_quiet (fail); try go_wp2)
            go_meet
            case rel => exact ⟨_, (x7_1), (x8_1), H', ⟨by have := HK1.out; first | omega | exact Nat.le_refl _⟩, ⟨by (with_reducible repeat (first | apply Kd.R_alloc | apply Kd.R_drewN | apply Kd.R_drew)); exact HO_7.out⟩, ⟨by (with_reducible repeat (first | apply Kd.R_alloc | apply Kd.R_drewN | apply Kd.R_drew)); exact HO_8.out⟩, ⟨by (with_reducible repeat (first | refine blk_drewN ?_ _ | refine blk_drew ?_ | refine blk_alloc ?_ _)); exact BK309.out⟩, ⟨by repeat (first | (with_reducible first | exact HB.out | apply below_alloc | apply pw_below_drewN | apply below_drew1 | refine below_set ?_ GE309.out) | exact HB.out)⟩⟩
    case rest =>
      clear HC7
      try clear c1
      try clear p2
      try clear c3
      try clear p3
      try clear q3
      try clear hx3
      try clear c5
      try clear p6
      try clear c10
      try clear c11
      try clear c11b0
      try clear c12
      try clear c12b0
      try clear c13
      try clear c13b0
      try clear c14
      try clear c15
      try clear hx315_0
      try clear hx319_0
      try clear p2
      try clear p315
      try clear p319
      try clear q315
      try clear q319
      obtain ⟨kq, x7_6, x8_6, HA, HJ6, HO_7, HO_8, BK309, HB⟩ := hcut
      cases kq with
      | zero => exact absurd HA.out (by simp [sennitlaw02_InternSame.j1])
      | succ kj6 =>
        have H := HA.out
        clear HA
        simp only [sennitlaw02_InternSame.j1] at H
        by_cases c20 : (x7_6.length : Int) = (x8_6.length : Int)
        · rw [if_pos c20] at H
          have c20b0 : ((x7_6.length : Int) == (x8_6.length : Int)) = true := beq_iff_eq.mpr c20
          have c20b1 : ((x7_6.length : Int) != (x8_6.length : Int)) = false := bne_eq_false_iff_eq.mpr c20
          have c20b2 : (x7_6.length == x8_6.length) = true := by first | simpa using c20 | (simp at c20 ⊢; omega)
          clear c20
          by_cases c21 : (x7_6.length : Int) = 0
          · rw [if_pos c21] at H
            have c21b0 : ((x7_6.length : Int) == 0) = true := beq_iff_eq.mpr c21
            have c21b1 : ((x7_6.length : Int) != 0) = false := bne_eq_false_iff_eq.mpr c21
            clear c21
            obtain rfl := Option.some.inj H
            obtain ⟨Ao22, co22, eo22⟩ := Kd.R_slice HO_7.out
            subst eo22
            obtain ⟨Ao23, co23, eo23⟩ := Kd.R_slice HO_8.out
            subst eo23
            go_wp2
            repeat (go_quiet (fail); try go_wp2)
            go_ret
            exact ⟨by first | rfl | (simp [errW_none, errW_some] <;> rfl) | (simp [*, errW_none, errW_some] <;> rfl), by repeat (first | (with_reducible first | exact HB.out | apply below_alloc | apply pw_below_drewN | apply below_drew1 | refine below_set ?_ GE309.out) | exact HB.out)⟩
          · rw [if_neg c21] at H
            have c21b0 : ((x7_6.length : Int) == 0) = false := beq_eq_false_iff_ne.mpr c21
            have c21b1 : ((x7_6.length : Int) != 0) = true := bne_iff_ne.mpr c21
            have c21b2 : ¬ (x7_6 = []) := fun h_ => c21 (by rw [h_]; rfl)
            by_cases c24 : t310 = true
            · subst c24
              have H1 : (if 0 ≤ (Int.tmod (wrap64 (a1_0)) (x7_6.length : Int)) then (if (Int.tmod (wrap64 (a1_0)) (x7_6.length : Int)) < (x7_6.length : Int) then (if 0 ≤ (Int.tmod (wrap64 (a1_1)) (x7_6.length : Int)) then (if (Int.tmod (wrap64 (a1_1)) (x7_6.length : Int)) < (x7_6.length : Int) then (if (Int.tmod (wrap64 (a1_0)) (x7_6.length : Int)) < (x8_6.length : Int) then (if (Int.tmod (wrap64 (a1_1)) (x7_6.length : Int)) < (x8_6.length : Int) then (some (((rdOf ByteArray.empty x7_6 (Int.tmod (wrap64 (a1_0)) (x7_6.length : Int))).toList == (rdOf ByteArray.empty x7_6 (Int.tmod (wrap64 (a1_1)) (x7_6.length : Int))).toList) == ((rd x8_6 (Int.tmod (wrap64 (a1_0)) (x7_6.length : Int))) == (rd x8_6 (Int.tmod (wrap64 (a1_1)) (x7_6.length : Int)))))) else (none)) else (none)) else (none)) else (none)) else (none)) else (none)) = some r := by rw [if_pos rfl] at H; exact H
              clear H
              have H := H1
              clear H1
              obtain ⟨ji25, hji25⟩ : ∃ j_ : Int, (Int.tmod (wrap64 (a1_0)) (x7_6.length : Int)) = j_ := ⟨_, rfl⟩
              replace H : (if 0 ≤ (ji25) then (if (ji25) < (x7_6.length : Int) then (if 0 ≤ (Int.tmod (wrap64 (a1_1)) (x7_6.length : Int)) then (if (Int.tmod (wrap64 (a1_1)) (x7_6.length : Int)) < (x7_6.length : Int) then (if (ji25) < (x8_6.length : Int) then (if (Int.tmod (wrap64 (a1_1)) (x7_6.length : Int)) < (x8_6.length : Int) then (some (((rdOf ByteArray.empty x7_6 (ji25)).toList == (rdOf ByteArray.empty x7_6 (Int.tmod (wrap64 (a1_1)) (x7_6.length : Int))).toList) == ((rd x8_6 (ji25)) == (rd x8_6 (Int.tmod (wrap64 (a1_1)) (x7_6.length : Int)))))) else (none)) else (none)) else (none)) else (none)) else (none)) else (none)) = some r := by first | (rw [hji25] at H; exact H) | (simp only [hji25] at H ⊢; exact H)
              by_cases c26 : 0 ≤ (ji25)
              · rw [if_pos c26] at H
                have c26b0 : decide (0 ≤ (ji25)) = true := decide_eq_true c26
                clear c26
                by_cases c27 : (ji25) < (x7_6.length : Int)
                · rw [if_pos c27] at H
                  have c27b0 : decide ((ji25) < (x7_6.length : Int)) = true := decide_eq_true c27
                  clear c27
                  obtain ⟨ji28, hji28⟩ : ∃ j_ : Int, (Int.tmod (wrap64 (a1_1)) (x7_6.length : Int)) = j_ := ⟨_, rfl⟩
                  replace H : (if 0 ≤ (ji28) then (if (ji28) < (x7_6.length : Int) then (if (ji25) < (x8_6.length : Int) then (if (ji28) < (x8_6.length : Int) then (some (((rdOf ByteArray.empty x7_6 (ji25)).toList == (rdOf ByteArray.empty x7_6 (ji28)).toList) == ((rd x8_6 (ji25)) == (rd x8_6 (ji28))))) else (none)) else (none)) else (none)) else (none)) = some r := by first | (rw [hji28] at H; exact H) | (simp only [hji28] at H ⊢; exact H)
                  by_cases c29 : 0 ≤ (ji28)
                  · rw [if_pos c29] at H
                    have c29b0 : decide (0 ≤ (ji28)) = true := decide_eq_true c29
                    clear c29
                    by_cases c30 : (ji28) < (x7_6.length : Int)
                    · rw [if_pos c30] at H
                      have c30b0 : decide ((ji28) < (x7_6.length : Int)) = true := decide_eq_true c30
                      clear c30
                      by_cases c31 : (ji25) < (x8_6.length : Int)
                      · rw [if_pos c31] at H
                        have c31b0 : decide ((ji25) < (x8_6.length : Int)) = true := decide_eq_true c31
                        clear c31
                        by_cases c32 : (ji28) < (x8_6.length : Int)
                        · rw [if_pos c32] at H
                          have c32b0 : decide ((ji28) < (x8_6.length : Int)) = true := decide_eq_true c32
                          clear c32
                          obtain rfl := Option.some.inj H
                          obtain ⟨Ao33, co33, eo33⟩ := Kd.R_slice HO_7.out
                          subst eo33
                          obtain ⟨Ao34, co34, eo34⟩ := Kd.R_slice HO_8.out
                          subst eo34
                          have hcz35_0 : wc.cell? ⟨gb309, 0, none⟩ = some (.int .u8 a1_0) := (blk_cell BK309.out 0).trans rfl
                          have hcz35_1 : wc.cell? ⟨gb309, 1, none⟩ = some (.int .u8 a1_1) := (blk_cell BK309.out 1).trans rfl
                          have hfz35_0 := blk_frozen BK309.out 0
                          have hfz35_1 := blk_frozen BK309.out 1
                          have p323 : 0 ≤ ((ji25) : Int) := of_decide_eq_true (by first | (with_reducible assumption) | assumption)
                          have q323 : (ji25) < (x7_6.length : Int) := of_decide_eq_true (by first | (with_reducible assumption) | assumption)
                          obtain ⟨ad323, e323, hx323_0⟩ := Kd.at_string (Kd.R_reads' HO_7.out).2.2 (ji25) p323 q323
                          cases e323
                          replace p323 := eq_true p323
                          replace q323 := eq_true q323
                          have p324 : 0 ≤ ((ji28) : Int) := of_decide_eq_true (by first | (with_reducible assumption) | assumption)
                          have q324 : (ji28) < (x7_6.length : Int) := of_decide_eq_true (by first | (with_reducible assumption) | assumption)
                          obtain ⟨ad324, e324, hx324_0⟩ := Kd.at_string (Kd.R_reads' HO_7.out).2.2 (ji28) p324 q324
                          obtain rfl : ad323 = ad324 := (by injection e324)
                          replace p324 := eq_true p324
                          replace q324 := eq_true q324
                          have p325 : 0 ≤ ((ji25) : Int) := of_decide_eq_true (by first | (with_reducible assumption) | assumption)
                          have q325 : (ji25) < (x8_6.length : Int) := of_decide_eq_true (by first | (with_reducible assumption) | assumption)
                          obtain ⟨ad325, e325, hx325_0⟩ := Kd.at_int (Kd.R_reads' HO_8.out).2.2 (ji25) p325 q325
                          cases e325
                          replace p325 := eq_true p325
                          replace q325 := eq_true q325
                          have p326 : 0 ≤ ((ji28) : Int) := of_decide_eq_true (by first | (with_reducible assumption) | assumption)
                          have q326 : (ji28) < (x8_6.length : Int) := of_decide_eq_true (by first | (with_reducible assumption) | assumption)
                          obtain ⟨ad326, e326, hx326_0⟩ := Kd.at_int (Kd.R_reads' HO_8.out).2.2 (ji28) p326 q326
                          obtain rfl : ad325 = ad326 := (by injection e326)
                          replace p326 := eq_true p326
                          replace q326 := eq_true q326
                          go_wp2
                          repeat (go_quiet (fail); try go_wp2)
                          go_ret
                          exact ⟨by first | rfl | (simp [errW_none, errW_some] <;> rfl) | (simp only [← hji25, ← hji28]; first | rfl | (simp [errW_none, errW_some] <;> rfl)) | (simp [*, errW_none, errW_some] <;> rfl), by repeat (first | (with_reducible first | exact HB.out | apply below_alloc | apply pw_below_drewN | apply below_drew1 | refine below_set ?_ GE309.out) | exact HB.out)⟩
                        · rw [if_neg c32] at H
                          exact absurd H (by simp)
                      · rw [if_neg c31] at H
                        exact absurd H (by simp)
                    · rw [if_neg c30] at H
                      exact absurd H (by simp)
                  · rw [if_neg c29] at H
                    exact absurd H (by simp)
                · rw [if_neg c27] at H
                  exact absurd H (by simp)
              · rw [if_neg c26] at H
                exact absurd H (by simp)
            · replace c24 := Bool.eq_false_iff.mpr c24
              subst c24
              have H1 : (some false) = some r := by rw [if_neg (show ¬ (false = true) by decide)] at H; exact H
              clear H
              have H := H1
              clear H1
              obtain rfl := Option.some.inj H
              obtain ⟨Ao36, co36, eo36⟩ := Kd.R_slice HO_7.out
              subst eo36
              obtain ⟨Ao37, co37, eo37⟩ := Kd.R_slice HO_8.out
              subst eo37
              have hcz38_0 : wc.cell? ⟨gb309, 0, none⟩ = some (.int .u8 a1_0) := (blk_cell BK309.out 0).trans rfl
              have hcz38_1 : wc.cell? ⟨gb309, 1, none⟩ = some (.int .u8 a1_1) := (blk_cell BK309.out 1).trans rfl
              have hfz38_0 := blk_frozen BK309.out 0
              have hfz38_1 := blk_frozen BK309.out 1
              go_wp2
              repeat (go_quiet (fail); try go_wp2)
              go_ret
              exact ⟨by first | rfl | (simp [errW_none, errW_some] <;> rfl) | (simp [*, errW_none, errW_some] <;> rfl), by repeat (first | (with_reducible first | exact HB.out | apply below_alloc | apply pw_below_drewN | apply below_drew1 | refine below_set ?_ GE309.out) | exact HB.out)⟩
        · rw [if_neg c20] at H
          have c20b0 : ((x7_6.length : Int) == (x8_6.length : Int)) = false := beq_eq_false_iff_ne.mpr c20
          have c20b1 : ((x7_6.length : Int) != (x8_6.length : Int)) = true := bne_iff_ne.mpr c20
          have c20b2 : (x7_6.length == x8_6.length) = false := by first | simpa using c20 | (simp at c20 ⊢; omega)
          obtain rfl := Option.some.inj H
          obtain ⟨Ao39, co39, eo39⟩ := Kd.R_slice HO_7.out
          subst eo39
          obtain ⟨Ao40, co40, eo40⟩ := Kd.R_slice HO_8.out
          subst eo40
          go_wp2
          repeat (go_quiet (fail); try go_wp2)
          go_ret
          exact ⟨by first | rfl | (simp [errW_none, errW_some] <;> rfl) | (simp [*, errW_none, errW_some] <;> rfl), by repeat (first | (with_reducible first | exact HB.out | apply below_alloc | apply pw_below_drewN | apply below_drew1 | refine below_set ?_ GE309.out) | exact HB.out)⟩
  · replace c5 := Bool.eq_false_iff.mpr c5
    subst c5
    have H1 : (some t310) = some r := by rw [if_neg (show ¬ (false = true) by decide)] at H; exact H
    clear H
    have H := H1
    clear H1
    obtain rfl := Option.some.inj H
    go_enter Try.func10, Try.ntmps10
    go_wp2_with (first | ((with_reducible refine gate_dst (N := 3) rfl ?_); (try (refine gate_guard (by rfl) ?_; dsimp only)); refine box_event ?hg (N := 3) ?hd (cs := #[.int .u8 a1_0, .int .u8 a1_1]) (t := 45) ?hr ?_; (case hd => rfl); (case hg => rfl); (case hr => first | (go_simp; done) | (go_simp; rfl)); intro gb309 hg w41 hbox hb; have n0_ := Aside0.mk (below_step (by repeat (first | (with_reducible first | exact HB.out | apply below_alloc | apply pw_below_drewN | apply below_drew1) | exact HB.out)) hb); have n1_ := Aside0.mk (hbox); have n2_ := Aside0.mk ((by rw [hg]; exact (below_size (by repeat (first | (with_reducible first | exact HB.out | apply below_alloc | apply pw_below_drewN | apply below_drew1) | exact HB.out))) : w.heap.size ≤ gb309)); have n3_ := Aside0.mk ((by rw [hg]; exact (below_size (by repeat (first | (with_reducible first | exact HB.out | apply below_alloc | apply pw_below_drewN | apply below_drew1) | exact HB.out))) : w.heap.size ≤ gb309)); clear HB; have HB := n0_; have BK309 := n1_; have GW309 := n2_; have GE309 := n3_; clear n0_ n1_ n2_ n3_; clear hb hbox hg) | (go_at_call 28; (with_reducible refine (sennitlaw02_awake.calls k  t310 _ A3.out).mono ?_); rintro e w42 ⟨rfl, hb⟩; have n0_ := Aside0.mk (blk_below (g := gb309) (o := .cells #[.int .u8 a1_0, .int .u8 a1_1] 45 (0, 0)) (by (with_reducible repeat (first | refine blk_drewN ?_ _ | refine blk_drew ?_ | refine blk_alloc ?_ _)); exact BK309.out) hb); have n1_ := Aside0.mk (below_step (by repeat (first | (with_reducible first | exact HB.out | apply below_alloc | apply pw_below_drewN | apply below_drew1 | refine below_set ?_ GE309.out) | exact HB.out)) hb); clear BK309; clear HB; have BK309 := n0_; have HB := n1_; clear n0_ n1_; (try clear hb); (try clear hb2); (try clear hk); (try clear hi)) | (go_at_call 34; (with_reducible refine (sennitlaw02_few.calls k _ _ l0 false _ ?side1 ?side2 A4.out).mono ?_); (case side1 => repeat (first | exact (Kd.C_below HR0.out HB.out) | (with_reducible refine Kd.C_alloc ?_ _) | (with_reducible refine Kd.C_drewN ?_ _) | (with_reducible refine Kd.C_drew ?_))); (case side2 => exact HC0.out); rintro e w' ⟨rfl, ⟨nd, rfl⟩⟩; (try first | exact ⟨rfl, _, World.drewN_drewN _ _ _⟩ | exact ⟨rfl, _, Eq.trans (World.drewN_drewN _ _ _) (congrArg (World.drewN _) (Nat.add_assoc _ _ _))⟩)))
    repeat (go_quiet (first | ((with_reducible refine gate_dst (N := 3) rfl ?_); (try (refine gate_guard (by rfl) ?_; dsimp only)); refine box_event ?hg (N := 3) ?hd (cs := #[.int .u8 a1_0, .int .u8 a1_1]) (t := 45) ?hr ?_; (case hd => rfl); (case hg => rfl); (case hr => first | (go_simp; done) | (go_simp; rfl)); intro gb309 hg w41 hbox hb; have n0_ := Aside0.mk (below_step (by repeat (first | (with_reducible first | exact HB.out | apply below_alloc | apply pw_below_drewN | apply below_drew1) | exact HB.out)) hb); have n1_ := Aside0.mk (hbox); have n2_ := Aside0.mk ((by rw [hg]; exact (below_size (by repeat (first | (with_reducible first | exact HB.out | apply below_alloc | apply pw_below_drewN | apply below_drew1) | exact HB.out))) : w.heap.size ≤ gb309)); have n3_ := Aside0.mk ((by rw [hg]; exact (below_size (by repeat (first | (with_reducible first | exact HB.out | apply below_alloc | apply pw_below_drewN | apply below_drew1) | exact HB.out))) : w.heap.size ≤ gb309)); clear HB; have HB := n0_; have BK309 := n1_; have GW309 := n2_; have GE309 := n3_; clear n0_ n1_ n2_ n3_; clear hb hbox hg) | (go_at_call 28; (with_reducible refine (sennitlaw02_awake.calls k  t310 _ A3.out).mono ?_); rintro e w42 ⟨rfl, hb⟩; have n0_ := Aside0.mk (blk_below (g := gb309) (o := .cells #[.int .u8 a1_0, .int .u8 a1_1] 45 (0, 0)) (by (with_reducible repeat (first | refine blk_drewN ?_ _ | refine blk_drew ?_ | refine blk_alloc ?_ _)); exact BK309.out) hb); have n1_ := Aside0.mk (below_step (by repeat (first | (with_reducible first | exact HB.out | apply below_alloc | apply pw_below_drewN | apply below_drew1 | refine below_set ?_ GE309.out) | exact HB.out)) hb); clear BK309; clear HB; have BK309 := n0_; have HB := n1_; clear n0_ n1_; (try clear hb); (try clear hb2); (try clear hk); (try clear hi)) | (go_at_call 34; (with_reducible refine (sennitlaw02_few.calls k _ _ l0 false _ ?side1 ?side2 A4.out).mono ?_); (case side1 => repeat (first | exact (Kd.C_below HR0.out HB.out) | (with_reducible refine Kd.C_alloc ?_ _) | (with_reducible refine Kd.C_drewN ?_ _) | (with_reducible refine Kd.C_drew ?_))); (case side2 => exact HC0.out); rintro e w' ⟨rfl, ⟨nd, rfl⟩⟩; (try first | exact ⟨rfl, _, World.drewN_drewN _ _ _⟩ | exact ⟨rfl, _, Eq.trans (World.drewN_drewN _ _ _) (congrArg (World.drewN _) (Nat.add_assoc _ _ _))⟩))); try go_wp2_with (first | ((with_reducible refine gate_dst (N := 3) rfl ?_); (try (refine gate_guard (by rfl) ?_; dsimp only)); refine box_event ?hg (N := 3) ?hd (cs := #[.int .u8 a1_0, .int .u8 a1_1]) (t := 45) ?hr ?_; (case hd => rfl); (case hg => rfl); (case hr => first | (go_simp; done) | (go_simp; rfl)); intro gb309 hg w41 hbox hb; have n0_ := Aside0.mk (below_step (by repeat (first | (with_reducible first | exact HB.out | apply below_alloc | apply pw_below_drewN | apply below_drew1) | exact HB.out)) hb); have n1_ := Aside0.mk (hbox); have n2_ := Aside0.mk ((by rw [hg]; exact (below_size (by repeat (first | (with_reducible first | exact HB.out | apply below_alloc | apply pw_below_drewN | apply below_drew1) | exact HB.out))) : w.heap.size ≤ gb309)); have n3_ := Aside0.mk ((by rw [hg]; exact (below_size (by repeat (first | (with_reducible first | exact HB.out | apply below_alloc | apply pw_below_drewN | apply below_drew1) | exact HB.out))) : w.heap.size ≤ gb309)); clear HB; have HB := n0_; have BK309 := n1_; have GW309 := n2_; have GE309 := n3_; clear n0_ n1_ n2_ n3_; clear hb hbox hg) | (go_at_call 28; (with_reducible refine (sennitlaw02_awake.calls k  t310 _ A3.out).mono ?_); rintro e w42 ⟨rfl, hb⟩; have n0_ := Aside0.mk (blk_below (g := gb309) (o := .cells #[.int .u8 a1_0, .int .u8 a1_1] 45 (0, 0)) (by (with_reducible repeat (first | refine blk_drewN ?_ _ | refine blk_drew ?_ | refine blk_alloc ?_ _)); exact BK309.out) hb); have n1_ := Aside0.mk (below_step (by repeat (first | (with_reducible first | exact HB.out | apply below_alloc | apply pw_below_drewN | apply below_drew1 | refine below_set ?_ GE309.out) | exact HB.out)) hb); clear BK309; clear HB; have BK309 := n0_; have HB := n1_; clear n0_ n1_; (try clear hb); (try clear hb2); (try clear hk); (try clear hi)) | (go_at_call 34; (with_reducible refine (sennitlaw02_few.calls k _ _ l0 false _ ?side1 ?side2 A4.out).mono ?_); (case side1 => repeat (first | exact (Kd.C_below HR0.out HB.out) | (with_reducible refine Kd.C_alloc ?_ _) | (with_reducible refine Kd.C_drewN ?_ _) | (with_reducible refine Kd.C_drew ?_))); (case side2 => exact HC0.out); rintro e w' ⟨rfl, ⟨nd, rfl⟩⟩; (try first | exact ⟨rfl, _, World.drewN_drewN _ _ _⟩ | exact ⟨rfl, _, Eq.trans (World.drewN_drewN _ _ _) (congrArg (World.drewN _) (Nat.add_assoc _ _ _))⟩))))
    go_ret
    exact ⟨by first | rfl | (simp [errW_none, errW_some] <;> rfl) | (simp [*, errW_none, errW_some] <;> rfl), by repeat (first | (with_reducible first | exact HB.out | apply below_alloc | apply pw_below_drewN | apply below_drew1 | refine below_set ?_ GE309.out) | exact HB.out)⟩

end Go.Proofs.Ytbhfenpccccloaa.M
