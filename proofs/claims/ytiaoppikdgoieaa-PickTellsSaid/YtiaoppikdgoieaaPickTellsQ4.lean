/- Texts of the claim PickTells, put together (part 4): By a program of this session: a Go function as a Lean function, and that the machine's call does what it says. -/
import Derived.ArgAppend
import Derived.Below
import Derived.BigQuiet
import Derived.Deep.AppendLies
import Derived.Deep.CutBlock
import Derived.Deep.DeepCutAuto
import Derived.Deep.Draws
import Derived.Deep.LoopGhost
import Derived.Deep.OwnRows
import Derived.Deep.QuietTactic
import Derived.Deep.RegionHeld3
import Derived.KernelRfl
import Derived.Laws.BitsLemmas
import Derived.Laws.BytesArg
import Derived.Laws.IdiomCopy
import Derived.Laws.MakeOwn
import Derived.Laws.OwnMore
import Derived.Laws.Rows
import Derived.Laws.Slices
import Derived.Lib.AppendStr
import Derived.Lib.ConvBytes
import Derived.Maps.AppendAt
import Derived.OrdersHeld
import Derived.OwnWalk
import Derived.RowKit
import Derived.RowKit3
import Derived.Tactics
import Derived.Test.YtiaoppikdgoieaaProg
import Derived.Test.YtiaoppikdgoieaaWApart
import Derived.Test.YtiaoppikdgoieaaWArr
import Derived.Test.YtiaoppikdgoieaaWAt
import Derived.Test.YtiaoppikdgoieaaWEqStruct
import Derived.Test.YtiaoppikdgoieaaWFoot
import Derived.Test.YtiaoppikdgoieaaWFootNe
import Derived.Test.YtiaoppikdgoieaaWFour
import Derived.Test.YtiaoppikdgoieaaWGuard
import Derived.Test.YtiaoppikdgoieaaWInv
import Derived.Test.YtiaoppikdgoieaaWInvWords
import Derived.Test.YtiaoppikdgoieaaWKept
import Derived.Test.YtiaoppikdgoieaaWLast
import Derived.Test.YtiaoppikdgoieaaWMore
import Derived.Test.YtiaoppikdgoieaaWN
import Derived.Test.YtiaoppikdgoieaaWNEv
import Derived.Test.YtiaoppikdgoieaaWQPut
import Derived.Test.YtiaoppikdgoieaaWRepsOne
import Derived.Test.YtiaoppikdgoieaaWShare
import Derived.Test.YtiaoppikdgoieaaWTab
import Derived.Test.YtiaoppikdgoieaaWWords
import Derived.Test.YtiaoppikdgoieaaWZeros
import Derived.WalkKit
import Derived.WideLaws
import Derived.Test.YtiaoppikdgoieaaPickTellsQ3
namespace Go.Proofs.Ytiaoppikdgoieaa.M
open Go.RowKit Go.Proofs.YtiaoppikdgoieaaW.PrintWords Go.Proofs.YtiaoppikdgoieaaW.PrintLast Go.Proofs.YtiaoppikdgoieaaW.PrintMore
attribute [local go_sem] max2_int min2_int max_two min_two max_three min_three max_four min_four
set_option linter.unusedVariables false
set_option linter.unusedSimpArgs false

/-! ### sennitref07_Piece: function 46 -/
def sennitref07_Piece.j0 : Nat → List ByteArray → List (List ByteArray) → List (List ByteArray) → Bool → Int → Bool → Option (Bool × List ByteArray × List ByteArray × (List (List ByteArray)))
  | 0, _, _, _, _, _, _ => none
  | k + 1, x0, x1, x7, x32, x664000, x664001 => if x32 = true then (if 0 ≤ (wrap64 (x664000 - 1)) then (if (wrap64 (x664000 - 1)) < (x1.length : Int) then (some (false, rd_L1 x1 (wrap64 (x664000 - 1)), ([] : List ByteArray), ([] : List (List ByteArray)))) else (none)) else (none)) else (if x664001 = true then ((sennitref07_union.f k x7).bind fun t670 => (some (false, t670, ([] : List ByteArray), ([] : List (List ByteArray))))) else (some (true, ([] : List ByteArray), x0, x1)))
def sennitref07_Piece.f (k : Nat) (l0 : List ByteArray) (l1 : List (List ByteArray)) (a2_0 : Int) (a2_1 : Bool) : Option (Bool × List ByteArray × List ByteArray × (List (List ByteArray))) := (sennitref06_Differing.f k l0 l1).bind fun t665 => (if (t665.length : Int) = 0 then (some (false, l0, ([] : List ByteArray), ([] : List (List ByteArray)))) else (if (t665.length : Int) = 1 then (if 0 < (t665.length : Int) then (some (false, rd_L1 t665 0, ([] : List ByteArray), ([] : List (List ByteArray)))) else (none)) else (if a2_0 > 0 then (sennitref07_Piece.j0 k l0 l1 t665 (decide (a2_0 ≤ (l1.length : Int))) a2_0 a2_1) else (sennitref07_Piece.j0 k l0 l1 t665 false a2_0 a2_1))))
theorem sennitref07_Piece.mono_l : ∀ k, (∀ y0 y1 y2 y3 y4 y5, LeO (sennitref07_Piece.j0 k y0 y1 y2 y3 y4 y5) (sennitref07_Piece.j0 (k + 1) y0 y1 y2 y3 y4 y5))
  | 0 => fun _ _ _ _ _ _ r h => by simp [sennitref07_Piece.j0] at h
  | k + 1 => by
    have ih0 := sennitref07_Piece.mono_l k
    · intro y0 y1 y2 y3 y4 y5
      unfold sennitref07_Piece.j0
      repeat' first
      | (with_reducible exact ih0 _ _ _ _ _ _)
      | (with_reducible exact sennitref06_Differing.mono _ _ _)
      | (with_reducible exact sennitref07_union.mono _ _)
      | (with_reducible exact LeO.refl _)
      | (with_reducible exact LeO.none _)
      | (with_reducible refine LeO.ite ?_ ?_)
      | (with_reducible refine LeO.bind ?_ (fun _ => ?_))
      | exact ih0 _ _ _ _ _ _
      | exact sennitref06_Differing.mono _ _ _
      | exact sennitref07_union.mono _ _
      | exact LeO.none _
      | refine LeO.ite ?_ ?_
      | refine LeO.bind ?_ (fun _ => ?_)
theorem sennitref07_Piece.mono : ∀ a0 a1 a2 a3 k, LeO (sennitref07_Piece.f k a0 a1 a2 a3) (sennitref07_Piece.f (k + 1) a0 a1 a2 a3) := by
  intro a0 a1 a2 a3 k
  have ih0 := sennitref07_Piece.mono_l k
  unfold sennitref07_Piece.f
  repeat' first
      | (with_reducible exact ih0 _ _ _ _ _ _)
      | (with_reducible exact sennitref06_Differing.mono _ _ _)
      | (with_reducible exact sennitref07_union.mono _ _)
      | (with_reducible exact LeO.refl _)
      | (with_reducible exact LeO.none _)
      | (with_reducible refine LeO.ite ?_ ?_)
      | (with_reducible refine LeO.bind ?_ (fun _ => ?_))
      | exact ih0 _ _ _ _ _ _
      | exact sennitref06_Differing.mono _ _ _
      | exact sennitref07_union.mono _ _
      | exact LeO.none _
      | refine LeO.ite ?_ ?_
      | refine LeO.bind ?_ (fun _ => ?_)
set_option maxHeartbeats 8000000 in
set_option maxRecDepth 100000 in
theorem sennitref07_Piece.calls (k : Nat) (P0_ : Nat → Prop) (A0 : Option Addr) (c0 : Nat) (l0 : List ByteArray) (P1_ : Nat → Prop) (A1 : Option Addr) (c1 : Nat) (l1 : List (List ByteArray)) (a2_0 : Int) (a2_1 : Bool) (r1 : Bool) (r2 : List ByteArray) (r3 : List ByteArray) (r4 : List (List ByteArray)) (w : World) (hs0 : Kd.V Kd.string 9 w w.heap.size (fun k_ => P0_ k_) (.slice A0 l0.length c0) l0) (hs1 : Kd.V (Kd.slice 9 Kd.string) 22 w w.heap.size (fun k_ => P1_ k_) (.slice A1 l1.length c1) l1) (h : sennitref07_Piece.f k l0 l1 a2_0 a2_1 = some (r1, r2, r3, r4)) :
    Calls Try.prog 46 #[.slice A0 l0.length c0, .slice A1 l1.length c1, .agg #[.int .i64 a2_0, .bool a2_1]] w fun e w' => ∃ v1_ v2_ v3_ : Value, e = .returned (.agg #[.bool r1, v1_, v2_, v3_]) ∧ Kd.V Kd.string 9 w' w.heap.size (fun k_ => ((P0_ k_ ∨ P1_ k_) ∨ w.heap.size ≤ k_)) v1_ r2 ∧ Kd.V Kd.string 9 w' w.heap.size (fun k_ => ((P0_ k_ ∨ P1_ k_) ∨ w.heap.size ≤ k_)) v2_ r3 ∧ Kd.V (Kd.slice 9 Kd.string) 22 w' w.heap.size (fun k_ => ((P0_ k_ ∨ P1_ k_) ∨ w.heap.size ≤ k_)) v3_ r4 ∧ Below w.heap.size w w' := by
  have hu30 := Try.underlying30
  have hu27 := Try.underlying27
  have HO0 := Aside0.mk (show Kd.V Kd.string 9 w w.heap.size (fun k_ => ((P0_ k_ ∨ P1_ k_) ∨ w.heap.size ≤ k_)) (.slice A0 l0.length c0) l0 from Kd.V_mono hs0 (fun k_ hk => .inl (.inl hk)))
  have HO1 := Aside0.mk (show Kd.V (Kd.slice 9 Kd.string) 22 w w.heap.size (fun k_ => ((P0_ k_ ∨ P1_ k_) ∨ w.heap.size ≤ k_)) (.slice A1 l1.length c1) l1 from Kd.V_mono hs1 (fun k_ hk => .inl (.inr hk)))
  have HB := Aside0.mk (Below.refl w.heap.size w)
  have H : ((sennitref06_Differing.f k l0 l1).bind fun t665 => (if (t665.length : Int) = 0 then (some (false, l0, ([] : List ByteArray), ([] : List (List ByteArray)))) else (if (t665.length : Int) = 1 then (if 0 < (t665.length : Int) then (some (false, rd_L1 t665 0, ([] : List ByteArray), ([] : List (List ByteArray)))) else (none)) else (if a2_0 > 0 then (sennitref07_Piece.j0 k l0 l1 t665 (decide (a2_0 ≤ (l1.length : Int))) a2_0 a2_1) else (sennitref07_Piece.j0 k l0 l1 t665 false a2_0 a2_1))))) = some (r1, r2, r3, r4) := h
  clear h
  replace H := Option.bind_eq_some_iff.mp H
  obtain ⟨t665, A40, H⟩ := H
  replace H : (if (t665.length : Int) = 0 then (some (false, l0, ([] : List ByteArray), ([] : List (List ByteArray)))) else (if (t665.length : Int) = 1 then (if 0 < (t665.length : Int) then (some (false, rd_L1 t665 0, ([] : List ByteArray), ([] : List (List ByteArray)))) else (none)) else (if a2_0 > 0 then (sennitref07_Piece.j0 k l0 l1 t665 (decide (a2_0 ≤ (l1.length : Int))) a2_0 a2_1) else (sennitref07_Piece.j0 k l0 l1 t665 false a2_0 a2_1)))) = some (r1, r2, r3, r4) := H
  have A4 := Aside0.mk A40
  clear A40
  by_cases c5 : (t665.length : Int) = 0
  · rw [if_pos c5] at H
    have c5b0 : ((t665.length : Int) == 0) = true := beq_iff_eq.mpr c5
    have c5b1 : ((t665.length : Int) != 0) = false := bne_eq_false_iff_eq.mpr c5
    clear c5
    simp only [Option.some.injEq, Prod.mk.injEq] at H
    obtain ⟨rfl, rfl, rfl, rfl⟩ := H
    go_enter Try.func46, Try.ntmps46
    go_wp2_with (first | ((with_reducible refine gate_dst (N := 5) rfl ?_); (try (refine gate_guard (by rfl) ?_; dsimp only)); refine box_event ?hg (N := 5) ?hd (cs := #[.int .i64 a2_0, .bool a2_1]) (t := 30) ?hr ?_; (case hd => rfl); (case hg => rfl); (case hr => first | (go_simp; done) | (go_simp; rfl)); intro gb663 hg w6 hbox hb; have n0_ := Aside0.mk (Kd.V_below (Kd.V_elderB (by (with_reducible repeat (first | apply Kd.V_alloc | apply Kd.V_drewN | apply Kd.V_drew)); exact HO0.out) gb663 (Nat.le_of_eq hg.symm)) hb); have n1_ := Aside0.mk (Kd.V_below (Kd.V_elderB (by (with_reducible repeat (first | apply Kd.V_alloc | apply Kd.V_drewN | apply Kd.V_drew)); exact HO1.out) gb663 (Nat.le_of_eq hg.symm)) hb); have n2_ := Aside0.mk (below_step (by repeat (first | (with_reducible first | exact HB.out | apply below_alloc | apply pw_below_drewN | apply below_drew1) | exact HB.out)) hb); have n3_ := Aside0.mk (hbox); have n4_ := Aside0.mk ((by rw [hg]; exact (below_size (by repeat (first | (with_reducible first | exact HB.out | apply below_alloc | apply pw_below_drewN | apply below_drew1) | exact HB.out))) : w.heap.size ≤ gb663)); have n5_ := Aside0.mk ((by rw [hg]; exact (below_size (by repeat (first | (with_reducible first | exact HB.out | apply below_alloc | apply pw_below_drewN | apply below_drew1) | exact HB.out))) : w.heap.size ≤ gb663)); clear HO0; clear HO1; clear HB; have HO0 := n0_; have HO1 := n1_; have HB := n2_; have BK663 := n3_; have GW663 := n4_; have GE663 := n5_; clear n0_ n1_ n2_ n3_ n4_ n5_; clear hb hbox hg) | ((with_reducible refine gate_dst (N := 6) rfl ?_); (try (refine gate_guard (by rfl) ?_; dsimp only)); refine box_event ?hg (N := 6) ?hd (cs := #[.bool false, .slice none 0 0, .slice none 0 0, .slice none 0 0]) (t := 27) ?hr ?_; (case hd => rfl); (case hg => rfl); (case hr => first | (go_simp; done) | (go_simp; rfl)); intro gb664 hg w7 hbox hb; have n0_ := Aside0.mk (Kd.V_below (Kd.V_elderB (by (with_reducible repeat (first | apply Kd.V_alloc | apply Kd.V_drewN | apply Kd.V_drew)); exact HO0.out) gb664 (Nat.le_of_eq hg.symm)) hb); have n1_ := Aside0.mk (Kd.V_below (Kd.V_elderB (by (with_reducible repeat (first | apply Kd.V_alloc | apply Kd.V_drewN | apply Kd.V_drew)); exact HO1.out) gb664 (Nat.le_of_eq hg.symm)) hb); have n2_ := Aside0.mk (blk_below (g := gb663) (o := .cells #[.int .i64 a2_0, .bool a2_1] 30 (0, 0)) (by (with_reducible repeat (first | refine blk_drewN ?_ _ | refine blk_drew ?_ | refine blk_alloc ?_ _)); exact BK663.out) hb); have n3_ := Aside0.mk (below_step (by repeat (first | (with_reducible first | exact HB.out | apply below_alloc | apply pw_below_drewN | apply below_drew1 | refine below_set ?_ GE663.out) | exact HB.out)) hb); have n4_ := Aside0.mk (hbox); have n5_ := Aside0.mk ((by rw [hg]; exact (below_size (by repeat (first | (with_reducible first | exact HB.out | apply below_alloc | apply pw_below_drewN | apply below_drew1 | refine below_set ?_ GE663.out) | exact HB.out))) : w.heap.size ≤ gb664)); have n6_ := Aside0.mk ((by rw [hg]; exact (below_size (by repeat (first | (with_reducible first | exact HB.out | apply below_alloc | apply pw_below_drewN | apply below_drew1 | refine below_set ?_ GE663.out) | exact HB.out))) : w.heap.size ≤ gb664)); have n7_ := Aside0.mk ((by rw [hg]; exact Nat.ne_of_lt (blk_lt (g := gb663) (o := .cells #[.int .i64 a2_0, .bool a2_1] 30 (0, 0)) (by (with_reducible repeat (first | refine blk_drewN ?_ _ | refine blk_drew ?_ | refine blk_alloc ?_ _)); exact BK663.out)) : gb663 ≠ gb664)); have n8_ := Aside0.mk ((by rw [hg]; exact Nat.ne_of_gt (blk_lt (g := gb663) (o := .cells #[.int .i64 a2_0, .bool a2_1] 30 (0, 0)) (by (with_reducible repeat (first | refine blk_drewN ?_ _ | refine blk_drew ?_ | refine blk_alloc ?_ _)); exact BK663.out)) : gb664 ≠ gb663)); clear HO0; clear HO1; clear BK663; clear HB; have HO0 := n0_; have HO1 := n1_; have BK663 := n2_; have HB := n3_; have BK664 := n4_; have GW664 := n5_; have GE664 := n6_; have NB663_664 := n7_; have NB664_663 := n8_; clear n0_ n1_ n2_ n3_ n4_ n5_ n6_ n7_ n8_; clear hb hbox hg) | ((with_reducible refine gate_callee (f := 22) rfl ?_); refine goesL_ (some 10) rfl rfl Try.func22 (by kernel_rfl) rfl #[.slice A0 l0.length c0, .slice A1 l1.length c1] rfl (by (try simp only [List.map_toArray, List.map_cons, List.map_nil]); first | done | rfl | (simp only [List.length_drop, List.length_take]; rfl)) ?_; (with_reducible refine (sennitref06_Differing.calls k _ _ l0 (fun k_ => ((((P0_ k_ ∨ P1_ k_) ∨ w.heap.size ≤ k_) ∧ k_ ≠ gb663) ∧ k_ ≠ gb664)) _ _ l1 t665 _ ?side1 ?side2 ?side3 A4.out).mono ?_); (case side1 => repeat (first | exact (Kd.V_reads' HO0.out).2.2 | (with_reducible refine Kd.C_alloc ?_ _) | (with_reducible refine Kd.C_drewN ?_ _) | (with_reducible refine Kd.C_drew ?_))); (case side2 => exact (Kd.V_reads' HO0.out).2.1); (case side3 => exact HO1.out); rintro e w8 ⟨v666, rfl, ho0, hb⟩; refine ⟨_, rfl, ?_⟩; have n0_ := Aside0.mk (Kd.V_elder' (by (with_reducible repeat (first | apply Kd.V_alloc | apply Kd.V_drewN | apply Kd.V_drew)); exact HO0.out) (Kd.N_base ho0) hb); have n1_ := Aside0.mk (Kd.V_elder' (by (with_reducible repeat (first | apply Kd.V_alloc | apply Kd.V_drewN | apply Kd.V_drew)); exact HO1.out) (Kd.N_base ho0) hb); have n2_ := Aside0.mk (Kd.N_lower (Kd.N_mono (ok' := fun k_ => ((P0_ k_ ∨ P1_ k_) ∨ w.heap.size ≤ k_) ∧ k_ ≠ gb663 ∧ k_ ≠ gb664) ho0 (fun k_ hk_ => ⟨Or.elim hk_ (fun hs_ => hs_.1.1) (fun hn_ => (.inr (Nat.le_trans (below_size (by repeat (first | (with_reducible first | exact HB.out | apply below_alloc | apply pw_below_drewN | apply below_drew1 | refine below_set ?_ GE663.out | refine below_set ?_ GE664.out) | exact HB.out))) hn_))), Or.elim hk_ (fun hs_ => hs_.1.2) (fun hn_ => (Kd.freshB (g := gb663) (o := .cells #[.int .i64 a2_0, .bool a2_1] 30 (0, 0)) (by (with_reducible repeat (first | refine blk_drewN ?_ _ | refine blk_drew ?_ | refine blk_alloc ?_ _)); exact BK663.out) k_ hn_)), Or.elim hk_ (fun hs_ => hs_.2) (fun hn_ => (Kd.freshB (g := gb664) (o := .cells #[.bool false, .slice none 0 0, .slice none 0 0, .slice none 0 0] 27 (0, 0)) (by (with_reducible repeat (first | refine blk_drewN ?_ _ | refine blk_drew ?_ | refine blk_alloc ?_ _)); exact BK664.out) k_ hn_))⟩)) (below_size (by repeat (first | (with_reducible first | exact HB.out | apply below_alloc | apply pw_below_drewN | apply below_drew1 | refine below_set ?_ GE663.out | refine below_set ?_ GE664.out) | exact HB.out)))); have n3_ := Aside0.mk (blk_below (g := gb663) (o := .cells #[.int .i64 a2_0, .bool a2_1] 30 (0, 0)) (by (with_reducible repeat (first | refine blk_drewN ?_ _ | refine blk_drew ?_ | refine blk_alloc ?_ _)); exact BK663.out) hb); have n4_ := Aside0.mk (blk_below (g := gb664) (o := .cells #[.bool false, .slice none 0 0, .slice none 0 0, .slice none 0 0] 27 (0, 0)) (by (with_reducible repeat (first | refine blk_drewN ?_ _ | refine blk_drew ?_ | refine blk_alloc ?_ _)); exact BK664.out) hb); have n5_ := Aside0.mk (below_step (by repeat (first | (with_reducible first | exact HB.out | apply below_alloc | apply pw_below_drewN | apply below_drew1 | refine below_set ?_ GE663.out | refine below_set ?_ GE664.out) | exact HB.out)) hb); clear HO0; clear HO1; clear BK663; clear BK664; clear HB; have HO0 := n0_; have HO1 := n1_; have HO667 := n2_; have BK663 := n3_; have BK664 := n4_; have HB := n5_; clear n0_ n1_ n2_ n3_ n4_ n5_; (try clear hb); (try clear hb2); (try clear hk); (try clear hi); (try clear ho0); obtain ⟨Ao9, co9, eo9⟩ := Kd.N_slice HO667.out; subst eo9; have hnb10 := NB664_663.out; have hnc10 := NB663_664.out; have hcz11_0 : w8.cell? ⟨gb664, 0, none⟩ = some (.bool false) := (blk_cell BK664.out 0).trans rfl; have hcz11_1 : w8.cell? ⟨gb664, 1, none⟩ = some (.slice none 0 0) := (blk_cell BK664.out 1).trans rfl; have hcz11_2 : w8.cell? ⟨gb664, 2, none⟩ = some (.slice none 0 0) := (blk_cell BK664.out 2).trans rfl; have hcz11_3 : w8.cell? ⟨gb664, 3, none⟩ = some (.slice none 0 0) := (blk_cell BK664.out 3).trans rfl; have hfz11_0 := blk_frozen BK664.out 0; have hfz11_1 := blk_frozen BK664.out 1; have hfz11_2 := blk_frozen BK664.out 2; have hfz11_3 := blk_frozen BK664.out 3))
    refine bodyPost_ret (results_cell_row rfl _ _ gb664 27 #[.bool false, .slice A0 l0.length c0, .slice none 0 0, .slice none 0 0] (0, 0) _ rfl (by (with_reducible repeat (first | refine blk_drewN ?_ _ | refine blk_drew ?_ | refine blk_alloc ?_ _)); refine blk_put (cs := #[.bool false, .slice A0 l0.length c0, .slice none 0 0, .slice none 0 0]) ?_ 3 _ rfl; (with_reducible repeat (first | refine blk_drewN ?_ _ | refine blk_drew ?_ | refine blk_alloc ?_ _)); refine blk_put (cs := #[.bool false, .slice A0 l0.length c0, .slice none 0 0, .slice none 0 0]) ?_ 2 _ rfl; (with_reducible repeat (first | refine blk_drewN ?_ _ | refine blk_drew ?_ | refine blk_alloc ?_ _)); refine blk_put (cs := #[.bool false, .slice none 0 0, .slice none 0 0, .slice none 0 0]) ?_ 1 _ rfl; (with_reducible repeat (first | refine blk_drewN ?_ _ | refine blk_drew ?_ | refine blk_alloc ?_ _)); refine blk_put (cs := #[.bool false, .slice none 0 0, .slice none 0 0, .slice none 0 0]) ?_ 0 _ rfl; (with_reducible repeat (first | refine blk_drewN ?_ _ | refine blk_drew ?_ | refine blk_alloc ?_ _)); exact BK664.out) Try.underlying27 rfl (by kernel_rfl)) rfl ?_
    exact ⟨_, _, _, by first | rfl | (simp [errW_none, errW_some] <;> rfl) | (simp [*, errW_none, errW_some] <;> rfl), by (with_reducible repeat (first | apply Kd.V_alloc | apply Kd.V_drewN | apply Kd.V_drew)); exact Kd.V_mono (Kd.V_far (p := ⟨gb664, 3, none⟩) (Kd.V_far (p := ⟨gb664, 2, none⟩) (Kd.V_far (p := ⟨gb664, 1, none⟩) (Kd.V_far (p := ⟨gb664, 0, none⟩) (Kd.V_mono HO0.out (fun k_ hk => (⟨hk, hk.1.2⟩ : _ ∧ k_ ≠ gb664))) (fun _ hk => hk.2) (.bool false)) (fun _ hk => hk.2) (.slice A0 l0.length c0)) (fun _ hk => hk.2) (.slice none 0 0)) (fun _ hk => hk.2) (.slice none 0 0)) (fun _ hk => hk.1.1.1.1), Kd.V_nil _ _ _ _ _, Kd.V_nil _ _ _ _ _, by repeat (first | (with_reducible first | exact HB.out | apply below_alloc | apply pw_below_drewN | apply below_drew1 | refine below_set ?_ GE663.out | refine below_set ?_ GE664.out) | exact HB.out)⟩
  · rw [if_neg c5] at H
    have c5b0 : ((t665.length : Int) == 0) = false := beq_eq_false_iff_ne.mpr c5
    have c5b1 : ((t665.length : Int) != 0) = true := bne_iff_ne.mpr c5
    have c5b2 : ¬ (t665 = []) := fun h_ => c5 (by rw [h_]; rfl)
    by_cases c12 : (t665.length : Int) = 1
    · rw [if_pos c12] at H
      have c12b0 : ((t665.length : Int) == 1) = true := beq_iff_eq.mpr c12
      have c12b1 : ((t665.length : Int) != 1) = false := bne_eq_false_iff_eq.mpr c12
      clear c12
      by_cases c13 : 0 < (t665.length : Int)
      · rw [if_pos c13] at H
        have c13b0 : decide (0 < (t665.length : Int)) = true := decide_eq_true c13
        have c13b1 : decide (0 < t665.length) = true := decide_eq_true (by omega)
        clear c13
        simp only [Option.some.injEq, Prod.mk.injEq] at H
        obtain ⟨rfl, rfl, rfl, rfl⟩ := H
        go_enter Try.func46, Try.ntmps46
        go_wp2_with (first | ((with_reducible refine gate_dst (N := 5) rfl ?_); (try (refine gate_guard (by rfl) ?_; dsimp only)); refine box_event ?hg (N := 5) ?hd (cs := #[.int .i64 a2_0, .bool a2_1]) (t := 30) ?hr ?_; (case hd => rfl); (case hg => rfl); (case hr => first | (go_simp; done) | (go_simp; rfl)); intro gb663 hg w14 hbox hb; have n0_ := Aside0.mk (Kd.V_below (Kd.V_elderB (by (with_reducible repeat (first | apply Kd.V_alloc | apply Kd.V_drewN | apply Kd.V_drew)); exact HO0.out) gb663 (Nat.le_of_eq hg.symm)) hb); have n1_ := Aside0.mk (Kd.V_below (Kd.V_elderB (by (with_reducible repeat (first | apply Kd.V_alloc | apply Kd.V_drewN | apply Kd.V_drew)); exact HO1.out) gb663 (Nat.le_of_eq hg.symm)) hb); have n2_ := Aside0.mk (below_step (by repeat (first | (with_reducible first | exact HB.out | apply below_alloc | apply pw_below_drewN | apply below_drew1) | exact HB.out)) hb); have n3_ := Aside0.mk (hbox); have n4_ := Aside0.mk ((by rw [hg]; exact (below_size (by repeat (first | (with_reducible first | exact HB.out | apply below_alloc | apply pw_below_drewN | apply below_drew1) | exact HB.out))) : w.heap.size ≤ gb663)); have n5_ := Aside0.mk ((by rw [hg]; exact (below_size (by repeat (first | (with_reducible first | exact HB.out | apply below_alloc | apply pw_below_drewN | apply below_drew1) | exact HB.out))) : w.heap.size ≤ gb663)); clear HO0; clear HO1; clear HB; have HO0 := n0_; have HO1 := n1_; have HB := n2_; have BK663 := n3_; have GW663 := n4_; have GE663 := n5_; clear n0_ n1_ n2_ n3_ n4_ n5_; clear hb hbox hg) | ((with_reducible refine gate_dst (N := 6) rfl ?_); (try (refine gate_guard (by rfl) ?_; dsimp only)); refine box_event ?hg (N := 6) ?hd (cs := #[.bool false, .slice none 0 0, .slice none 0 0, .slice none 0 0]) (t := 27) ?hr ?_; (case hd => rfl); (case hg => rfl); (case hr => first | (go_simp; done) | (go_simp; rfl)); intro gb664 hg w15 hbox hb; have n0_ := Aside0.mk (Kd.V_below (Kd.V_elderB (by (with_reducible repeat (first | apply Kd.V_alloc | apply Kd.V_drewN | apply Kd.V_drew)); exact HO0.out) gb664 (Nat.le_of_eq hg.symm)) hb); have n1_ := Aside0.mk (Kd.V_below (Kd.V_elderB (by (with_reducible repeat (first | apply Kd.V_alloc | apply Kd.V_drewN | apply Kd.V_drew)); exact HO1.out) gb664 (Nat.le_of_eq hg.symm)) hb); have n2_ := Aside0.mk (blk_below (g := gb663) (o := .cells #[.int .i64 a2_0, .bool a2_1] 30 (0, 0)) (by (with_reducible repeat (first | refine blk_drewN ?_ _ | refine blk_drew ?_ | refine blk_alloc ?_ _)); exact BK663.out) hb); have n3_ := Aside0.mk (below_step (by repeat (first | (with_reducible first | exact HB.out | apply below_alloc | apply pw_below_drewN | apply below_drew1 | refine below_set ?_ GE663.out) | exact HB.out)) hb); have n4_ := Aside0.mk (hbox); have n5_ := Aside0.mk ((by rw [hg]; exact (below_size (by repeat (first | (with_reducible first | exact HB.out | apply below_alloc | apply pw_below_drewN | apply below_drew1 | refine below_set ?_ GE663.out) | exact HB.out))) : w.heap.size ≤ gb664)); have n6_ := Aside0.mk ((by rw [hg]; exact (below_size (by repeat (first | (with_reducible first | exact HB.out | apply below_alloc | apply pw_below_drewN | apply below_drew1 | refine below_set ?_ GE663.out) | exact HB.out))) : w.heap.size ≤ gb664)); have n7_ := Aside0.mk ((by rw [hg]; exact Nat.ne_of_lt (blk_lt (g := gb663) (o := .cells #[.int .i64 a2_0, .bool a2_1] 30 (0, 0)) (by (with_reducible repeat (first | refine blk_drewN ?_ _ | refine blk_drew ?_ | refine blk_alloc ?_ _)); exact BK663.out)) : gb663 ≠ gb664)); have n8_ := Aside0.mk ((by rw [hg]; exact Nat.ne_of_gt (blk_lt (g := gb663) (o := .cells #[.int .i64 a2_0, .bool a2_1] 30 (0, 0)) (by (with_reducible repeat (first | refine blk_drewN ?_ _ | refine blk_drew ?_ | refine blk_alloc ?_ _)); exact BK663.out)) : gb664 ≠ gb663)); clear HO0; clear HO1; clear BK663; clear HB; have HO0 := n0_; have HO1 := n1_; have BK663 := n2_; have HB := n3_; have BK664 := n4_; have GW664 := n5_; have GE664 := n6_; have NB663_664 := n7_; have NB664_663 := n8_; clear n0_ n1_ n2_ n3_ n4_ n5_ n6_ n7_ n8_; clear hb hbox hg) | ((with_reducible refine gate_callee (f := 22) rfl ?_); refine goesL_ (some 10) rfl rfl Try.func22 (by kernel_rfl) rfl #[.slice A0 l0.length c0, .slice A1 l1.length c1] rfl (by (try simp only [List.map_toArray, List.map_cons, List.map_nil]); first | done | rfl | (simp only [List.length_drop, List.length_take]; rfl)) ?_; (with_reducible refine (sennitref06_Differing.calls k _ _ l0 (fun k_ => ((((P0_ k_ ∨ P1_ k_) ∨ w.heap.size ≤ k_) ∧ k_ ≠ gb663) ∧ k_ ≠ gb664)) _ _ l1 t665 _ ?side1 ?side2 ?side3 A4.out).mono ?_); (case side1 => repeat (first | exact (Kd.V_reads' HO0.out).2.2 | (with_reducible refine Kd.C_alloc ?_ _) | (with_reducible refine Kd.C_drewN ?_ _) | (with_reducible refine Kd.C_drew ?_))); (case side2 => exact (Kd.V_reads' HO0.out).2.1); (case side3 => exact HO1.out); rintro e w16 ⟨v666, rfl, ho0, hb⟩; refine ⟨_, rfl, ?_⟩; have n0_ := Aside0.mk (Kd.V_elder' (by (with_reducible repeat (first | apply Kd.V_alloc | apply Kd.V_drewN | apply Kd.V_drew)); exact HO0.out) (Kd.N_base ho0) hb); have n1_ := Aside0.mk (Kd.V_elder' (by (with_reducible repeat (first | apply Kd.V_alloc | apply Kd.V_drewN | apply Kd.V_drew)); exact HO1.out) (Kd.N_base ho0) hb); have n2_ := Aside0.mk (Kd.N_lower (Kd.N_mono (ok' := fun k_ => ((P0_ k_ ∨ P1_ k_) ∨ w.heap.size ≤ k_) ∧ k_ ≠ gb663 ∧ k_ ≠ gb664) ho0 (fun k_ hk_ => ⟨Or.elim hk_ (fun hs_ => hs_.1.1) (fun hn_ => (.inr (Nat.le_trans (below_size (by repeat (first | (with_reducible first | exact HB.out | apply below_alloc | apply pw_below_drewN | apply below_drew1 | refine below_set ?_ GE663.out | refine below_set ?_ GE664.out) | exact HB.out))) hn_))), Or.elim hk_ (fun hs_ => hs_.1.2) (fun hn_ => (Kd.freshB (g := gb663) (o := .cells #[.int .i64 a2_0, .bool a2_1] 30 (0, 0)) (by (with_reducible repeat (first | refine blk_drewN ?_ _ | refine blk_drew ?_ | refine blk_alloc ?_ _)); exact BK663.out) k_ hn_)), Or.elim hk_ (fun hs_ => hs_.2) (fun hn_ => (Kd.freshB (g := gb664) (o := .cells #[.bool false, .slice none 0 0, .slice none 0 0, .slice none 0 0] 27 (0, 0)) (by (with_reducible repeat (first | refine blk_drewN ?_ _ | refine blk_drew ?_ | refine blk_alloc ?_ _)); exact BK664.out) k_ hn_))⟩)) (below_size (by repeat (first | (with_reducible first | exact HB.out | apply below_alloc | apply pw_below_drewN | apply below_drew1 | refine below_set ?_ GE663.out | refine below_set ?_ GE664.out) | exact HB.out)))); have n3_ := Aside0.mk (blk_below (g := gb663) (o := .cells #[.int .i64 a2_0, .bool a2_1] 30 (0, 0)) (by (with_reducible repeat (first | refine blk_drewN ?_ _ | refine blk_drew ?_ | refine blk_alloc ?_ _)); exact BK663.out) hb); have n4_ := Aside0.mk (blk_below (g := gb664) (o := .cells #[.bool false, .slice none 0 0, .slice none 0 0, .slice none 0 0] 27 (0, 0)) (by (with_reducible repeat (first | refine blk_drewN ?_ _ | refine blk_drew ?_ | refine blk_alloc ?_ _)); exact BK664.out) hb); have n5_ := Aside0.mk (below_step (by repeat (first | (with_reducible first | exact HB.out | apply below_alloc | apply pw_below_drewN | apply below_drew1 | refine below_set ?_ GE663.out | refine below_set ?_ GE664.out) | exact HB.out)) hb); clear HO0; clear HO1; clear BK663; clear BK664; clear HB; have HO0 := n0_; have HO1 := n1_; have HO667 := n2_; have BK663 := n3_; have BK664 := n4_; have HB := n5_; clear n0_ n1_ n2_ n3_ n4_ n5_; (try clear hb); (try clear hb2); (try clear hk); (try clear hi); (try clear ho0); obtain ⟨Ao17, co17, eo17⟩ := Kd.N_slice HO667.out; subst eo17; have p668 : 0 ≤ (0 : Int) := (by omega); have q668 : 0 < (t665.length : Int) := of_decide_eq_true (by first | (with_reducible assumption) | assumption); obtain ⟨ad668, A668_0, c668_0, e668, hx668_0, hl668_0, hi668_0⟩ := at_L1 (Kd.N_reads' HO667.out).2.2 0 p668 q668; cases e668; obtain ⟨ce668, hce668, hMe668, hcc668⟩ := Kd.N_get HO667.out [] 0 p668 (by first | exact q668 | exact of_decide_eq_true (by first | (with_reducible assumption) | assumption) | (have e_ := (Kd.N_reads' HO667.out).1; omega)); obtain ⟨ua668_0, uc668_0, rfl, ul668_0, ge668_0⟩ := Kd.FK_slice_open hMe668; have hv668_0 := hcc668 0 _ rfl; rw [Nat.add_zero, show ((Kd.slice 9 Kd.string)).sz = 1 from rfl, Nat.mul_one] at hv668_0; replace hv668_0 := Option.some.inj (hv668_0.symm.trans hx668_0); injection hv668_0 with hva_ hvn_ hvc_; rw [hva_] at ge668_0; rw [hvc_] at ul668_0; have HL668_0 := Aside0.mk (show Kd.V Kd.string 9 _ w.heap.size _ _ (rd_L1 t665 0) from Kd.V_mk ul668_0 ge668_0); clear hva_ hvn_ hvc_ ge668_0 ul668_0; clear hcc668 hce668; have qi668 : (0 < t665.length) = True := eq_true (by omega); (try rw [show ((0 : Int)).toNat = 0 from rfl] at hx668_0); (try rw [Addr.add_zero'] at hx668_0); have HR668_0 := Aside0.mk hi668_0; have HC668_0 := Aside0.mk hl668_0; clear hi668_0 hl668_0; replace p668 := eq_true p668; replace q668 := eq_true q668; have hnb18 := NB664_663.out; have hnc18 := NB663_664.out; have hcz19_0 : w16.cell? ⟨gb664, 0, none⟩ = some (.bool false) := (blk_cell BK664.out 0).trans rfl; have hcz19_1 : w16.cell? ⟨gb664, 1, none⟩ = some (.slice none 0 0) := (blk_cell BK664.out 1).trans rfl; have hcz19_2 : w16.cell? ⟨gb664, 2, none⟩ = some (.slice none 0 0) := (blk_cell BK664.out 2).trans rfl; have hcz19_3 : w16.cell? ⟨gb664, 3, none⟩ = some (.slice none 0 0) := (blk_cell BK664.out 3).trans rfl; have hfz19_0 := blk_frozen BK664.out 0; have hfz19_1 := blk_frozen BK664.out 1; have hfz19_2 := blk_frozen BK664.out 2; have hfz19_3 := blk_frozen BK664.out 3))
        refine bodyPost_ret (results_cell_row rfl _ _ gb664 27 #[.bool false, .slice A668_0 (rd_L1 t665 0).length c668_0, .slice none 0 0, .slice none 0 0] (0, 0) _ rfl (by (with_reducible repeat (first | refine blk_drewN ?_ _ | refine blk_drew ?_ | refine blk_alloc ?_ _)); refine blk_put (cs := #[.bool false, .slice A668_0 (rd_L1 t665 0).length c668_0, .slice none 0 0, .slice none 0 0]) ?_ 3 _ rfl; (with_reducible repeat (first | refine blk_drewN ?_ _ | refine blk_drew ?_ | refine blk_alloc ?_ _)); refine blk_put (cs := #[.bool false, .slice A668_0 (rd_L1 t665 0).length c668_0, .slice none 0 0, .slice none 0 0]) ?_ 2 _ rfl; (with_reducible repeat (first | refine blk_drewN ?_ _ | refine blk_drew ?_ | refine blk_alloc ?_ _)); refine blk_put (cs := #[.bool false, .slice none 0 0, .slice none 0 0, .slice none 0 0]) ?_ 1 _ rfl; (with_reducible repeat (first | refine blk_drewN ?_ _ | refine blk_drew ?_ | refine blk_alloc ?_ _)); refine blk_put (cs := #[.bool false, .slice none 0 0, .slice none 0 0, .slice none 0 0]) ?_ 0 _ rfl; (with_reducible repeat (first | refine blk_drewN ?_ _ | refine blk_drew ?_ | refine blk_alloc ?_ _)); exact BK664.out) Try.underlying27 rfl (by kernel_rfl)) rfl ?_
        exact ⟨_, _, _, by first | rfl | (simp [errW_none, errW_some] <;> rfl) | (simp [*, errW_none, errW_some] <;> rfl), by (with_reducible repeat (first | apply Kd.V_alloc | apply Kd.V_drewN | apply Kd.V_drew)); exact Kd.V_mono (Kd.V_far (p := ⟨gb664, 3, none⟩) (Kd.V_far (p := ⟨gb664, 2, none⟩) (Kd.V_far (p := ⟨gb664, 1, none⟩) (Kd.V_far (p := ⟨gb664, 0, none⟩) (Kd.V_mono HL668_0.out (fun k_ hk => (⟨hk, hk.1.2.2⟩ : _ ∧ k_ ≠ gb664))) (fun _ hk => hk.2) (.bool false)) (fun _ hk => hk.2) (.slice A668_0 (rd_L1 t665 0).length c668_0)) (fun _ hk => hk.2) (.slice none 0 0)) (fun _ hk => hk.2) (.slice none 0 0)) (fun _ hk => hk.1.1.1), Kd.V_nil _ _ _ _ _, Kd.V_nil _ _ _ _ _, by repeat (first | (with_reducible first | exact HB.out | apply below_alloc | apply pw_below_drewN | apply below_drew1 | refine below_set ?_ GE663.out | refine below_set ?_ GE664.out) | exact HB.out)⟩
      · rw [if_neg c13] at H
        exact absurd H (by simp)
    · rw [if_neg c12] at H
      have c12b0 : ((t665.length : Int) == 1) = false := beq_eq_false_iff_ne.mpr c12
      have c12b1 : ((t665.length : Int) != 1) = true := bne_iff_ne.mpr c12
      have HC20 := Aside0.mk H
      clear H
      go_enter Try.func46, Try.ntmps46
      go_upto_region 6 with (first | ((with_reducible refine gate_dst (N := 5) rfl ?_); (try (refine gate_guard (by rfl) ?_; dsimp only)); refine box_event ?hg (N := 5) ?hd (cs := #[.int .i64 a2_0, .bool a2_1]) (t := 30) ?hr ?_; (case hd => rfl); (case hg => rfl); (case hr => first | (go_simp; done) | (go_simp; rfl)); intro gb663 hg w21 hbox hb; have n0_ := Aside0.mk (Kd.V_below (Kd.V_elderB (by (with_reducible repeat (first | apply Kd.V_alloc | apply Kd.V_drewN | apply Kd.V_drew)); exact HO0.out) gb663 (Nat.le_of_eq hg.symm)) hb); have n1_ := Aside0.mk (Kd.V_below (Kd.V_elderB (by (with_reducible repeat (first | apply Kd.V_alloc | apply Kd.V_drewN | apply Kd.V_drew)); exact HO1.out) gb663 (Nat.le_of_eq hg.symm)) hb); have n2_ := Aside0.mk (below_step (by repeat (first | (with_reducible first | exact HB.out | apply below_alloc | apply pw_below_drewN | apply below_drew1) | exact HB.out)) hb); have n3_ := Aside0.mk (hbox); have n4_ := Aside0.mk ((by rw [hg]; exact (below_size (by repeat (first | (with_reducible first | exact HB.out | apply below_alloc | apply pw_below_drewN | apply below_drew1) | exact HB.out))) : w.heap.size ≤ gb663)); have n5_ := Aside0.mk ((by rw [hg]; exact (below_size (by repeat (first | (with_reducible first | exact HB.out | apply below_alloc | apply pw_below_drewN | apply below_drew1) | exact HB.out))) : w.heap.size ≤ gb663)); clear HO0; clear HO1; clear HB; have HO0 := n0_; have HO1 := n1_; have HB := n2_; have BK663 := n3_; have GW663 := n4_; have GE663 := n5_; clear n0_ n1_ n2_ n3_ n4_ n5_; clear hb hbox hg) | ((with_reducible refine gate_dst (N := 6) rfl ?_); (try (refine gate_guard (by rfl) ?_; dsimp only)); refine box_event ?hg (N := 6) ?hd (cs := #[.bool false, .slice none 0 0, .slice none 0 0, .slice none 0 0]) (t := 27) ?hr ?_; (case hd => rfl); (case hg => rfl); (case hr => first | (go_simp; done) | (go_simp; rfl)); intro gb664 hg w22 hbox hb; have n0_ := Aside0.mk (Kd.V_below (Kd.V_elderB (by (with_reducible repeat (first | apply Kd.V_alloc | apply Kd.V_drewN | apply Kd.V_drew)); exact HO0.out) gb664 (Nat.le_of_eq hg.symm)) hb); have n1_ := Aside0.mk (Kd.V_below (Kd.V_elderB (by (with_reducible repeat (first | apply Kd.V_alloc | apply Kd.V_drewN | apply Kd.V_drew)); exact HO1.out) gb664 (Nat.le_of_eq hg.symm)) hb); have n2_ := Aside0.mk (blk_below (g := gb663) (o := .cells #[.int .i64 a2_0, .bool a2_1] 30 (0, 0)) (by (with_reducible repeat (first | refine blk_drewN ?_ _ | refine blk_drew ?_ | refine blk_alloc ?_ _)); exact BK663.out) hb); have n3_ := Aside0.mk (below_step (by repeat (first | (with_reducible first | exact HB.out | apply below_alloc | apply pw_below_drewN | apply below_drew1 | refine below_set ?_ GE663.out) | exact HB.out)) hb); have n4_ := Aside0.mk (hbox); have n5_ := Aside0.mk ((by rw [hg]; exact (below_size (by repeat (first | (with_reducible first | exact HB.out | apply below_alloc | apply pw_below_drewN | apply below_drew1 | refine below_set ?_ GE663.out) | exact HB.out))) : w.heap.size ≤ gb664)); have n6_ := Aside0.mk ((by rw [hg]; exact (below_size (by repeat (first | (with_reducible first | exact HB.out | apply below_alloc | apply pw_below_drewN | apply below_drew1 | refine below_set ?_ GE663.out) | exact HB.out))) : w.heap.size ≤ gb664)); have n7_ := Aside0.mk ((by rw [hg]; exact Nat.ne_of_lt (blk_lt (g := gb663) (o := .cells #[.int .i64 a2_0, .bool a2_1] 30 (0, 0)) (by (with_reducible repeat (first | refine blk_drewN ?_ _ | refine blk_drew ?_ | refine blk_alloc ?_ _)); exact BK663.out)) : gb663 ≠ gb664)); have n8_ := Aside0.mk ((by rw [hg]; exact Nat.ne_of_gt (blk_lt (g := gb663) (o := .cells #[.int .i64 a2_0, .bool a2_1] 30 (0, 0)) (by (with_reducible repeat (first | refine blk_drewN ?_ _ | refine blk_drew ?_ | refine blk_alloc ?_ _)); exact BK663.out)) : gb664 ≠ gb663)); clear HO0; clear HO1; clear BK663; clear HB; have HO0 := n0_; have HO1 := n1_; have BK663 := n2_; have HB := n3_; have BK664 := n4_; have GW664 := n5_; have GE664 := n6_; have NB663_664 := n7_; have NB664_663 := n8_; clear n0_ n1_ n2_ n3_ n4_ n5_ n6_ n7_ n8_; clear hb hbox hg) | ((with_reducible refine gate_callee (f := 22) rfl ?_); refine goesL_ (some 10) rfl rfl Try.func22 (by kernel_rfl) rfl #[.slice A0 l0.length c0, .slice A1 l1.length c1] rfl (by (try simp only [List.map_toArray, List.map_cons, List.map_nil]); first | done | rfl | (simp only [List.length_drop, List.length_take]; rfl)) ?_; (with_reducible refine (sennitref06_Differing.calls k _ _ l0 (fun k_ => ((((P0_ k_ ∨ P1_ k_) ∨ w.heap.size ≤ k_) ∧ k_ ≠ gb663) ∧ k_ ≠ gb664)) _ _ l1 t665 _ ?side1 ?side2 ?side3 A4.out).mono ?_); (case side1 => repeat (first | exact (Kd.V_reads' HO0.out).2.2 | (with_reducible refine Kd.C_alloc ?_ _) | (with_reducible refine Kd.C_drewN ?_ _) | (with_reducible refine Kd.C_drew ?_))); (case side2 => exact (Kd.V_reads' HO0.out).2.1); (case side3 => exact HO1.out); rintro e w23 ⟨v666, rfl, ho0, hb⟩; refine ⟨_, rfl, ?_⟩; have n0_ := Aside0.mk (Kd.V_elder' (by (with_reducible repeat (first | apply Kd.V_alloc | apply Kd.V_drewN | apply Kd.V_drew)); exact HO0.out) (Kd.N_base ho0) hb); have n1_ := Aside0.mk (Kd.V_elder' (by (with_reducible repeat (first | apply Kd.V_alloc | apply Kd.V_drewN | apply Kd.V_drew)); exact HO1.out) (Kd.N_base ho0) hb); have n2_ := Aside0.mk (Kd.N_lower (Kd.N_mono (ok' := fun k_ => ((P0_ k_ ∨ P1_ k_) ∨ w.heap.size ≤ k_) ∧ k_ ≠ gb663 ∧ k_ ≠ gb664) ho0 (fun k_ hk_ => ⟨Or.elim hk_ (fun hs_ => hs_.1.1) (fun hn_ => (.inr (Nat.le_trans (below_size (by repeat (first | (with_reducible first | exact HB.out | apply below_alloc | apply pw_below_drewN | apply below_drew1 | refine below_set ?_ GE663.out | refine below_set ?_ GE664.out) | exact HB.out))) hn_))), Or.elim hk_ (fun hs_ => hs_.1.2) (fun hn_ => (Kd.freshB (g := gb663) (o := .cells #[.int .i64 a2_0, .bool a2_1] 30 (0, 0)) (by (with_reducible repeat (first | refine blk_drewN ?_ _ | refine blk_drew ?_ | refine blk_alloc ?_ _)); exact BK663.out) k_ hn_)), Or.elim hk_ (fun hs_ => hs_.2) (fun hn_ => (Kd.freshB (g := gb664) (o := .cells #[.bool false, .slice none 0 0, .slice none 0 0, .slice none 0 0] 27 (0, 0)) (by (with_reducible repeat (first | refine blk_drewN ?_ _ | refine blk_drew ?_ | refine blk_alloc ?_ _)); exact BK664.out) k_ hn_))⟩)) (below_size (by repeat (first | (with_reducible first | exact HB.out | apply below_alloc | apply pw_below_drewN | apply below_drew1 | refine below_set ?_ GE663.out | refine below_set ?_ GE664.out) | exact HB.out)))); have n3_ := Aside0.mk (blk_below (g := gb663) (o := .cells #[.int .i64 a2_0, .bool a2_1] 30 (0, 0)) (by (with_reducible repeat (first | refine blk_drewN ?_ _ | refine blk_drew ?_ | refine blk_alloc ?_ _)); exact BK663.out) hb); have n4_ := Aside0.mk (blk_below (g := gb664) (o := .cells #[.bool false, .slice none 0 0, .slice none 0 0, .slice none 0 0] 27 (0, 0)) (by (with_reducible repeat (first | refine blk_drewN ?_ _ | refine blk_drew ?_ | refine blk_alloc ?_ _)); exact BK664.out) hb); have n5_ := Aside0.mk (below_step (by repeat (first | (with_reducible first | exact HB.out | apply below_alloc | apply pw_below_drewN | apply below_drew1 | refine below_set ?_ GE663.out | refine below_set ?_ GE664.out) | exact HB.out)) hb); clear HO0; clear HO1; clear BK663; clear BK664; clear HB; have HO0 := n0_; have HO1 := n1_; have HO667 := n2_; have BK663 := n3_; have BK664 := n4_; have HB := n5_; clear n0_ n1_ n2_ n3_ n4_ n5_; (try clear hb); (try clear hb2); (try clear hk); (try clear hi); (try clear ho0); obtain ⟨Ao24, co24, eo24⟩ := Kd.N_slice HO667.out; subst eo24))
      (try simp only [Act.put, List.setIfInBounds_toArray, List.set_cons_zero, List.set_cons_succ])
      go_cut [32] (fun v32 wc => ∃ (kq : Nat) (x32_19 : Bool), v32 = .bool x32_19 ∧ Aside0 (sennitref07_Piece.j0 kq l0 l1 t665 x32_19 a2_0 a2_1 = some (r1, r2, r3, r4)) ∧ Aside0 (kq ≤ k) ∧ Aside0 (Kd.V Kd.string 9 wc w.heap.size (fun k_ => ((P0_ k_ ∨ P1_ k_) ∨ w.heap.size ≤ k_) ∧ some k_ ≠ ((.slice Ao24 t665.length co24) : Value).ownBlock ∧ k_ ≠ gb663 ∧ k_ ≠ gb664) (.slice A0 l0.length c0) l0) ∧ Aside0 (Kd.V (Kd.slice 9 Kd.string) 22 wc w.heap.size (fun k_ => ((P0_ k_ ∨ P1_ k_) ∨ w.heap.size ≤ k_) ∧ some k_ ≠ ((.slice Ao24 t665.length co24) : Value).ownBlock ∧ k_ ≠ gb663 ∧ k_ ≠ gb664) (.slice A1 l1.length c1) l1) ∧ Aside0 (Kd.N (Kd.slice 9 Kd.string) 22 wc w.heap.size (fun k_ => ((P0_ k_ ∨ P1_ k_) ∨ w.heap.size ≤ k_) ∧ k_ ≠ gb663 ∧ k_ ≠ gb664) (.slice Ao24 t665.length co24) t665) ∧ Aside0 (wc.heap[gb663]? = some (.cells #[.int .i64 a2_0, .bool a2_1] 30 (0, 0))) ∧ Aside0 (wc.heap[gb664]? = some (.cells #[.bool false, (.slice none 0 0), (.slice none 0 0), (.slice none 0 0)] 27 (0, 0))) ∧ Aside0 (Below w.heap.size w wc))
      case first =>
        have H := HC20.out
        clear HC20
        by_cases c25 : a2_0 > 0
        · rw [if_pos c25] at H
          have c25b0 : decide (0 < a2_0) = true := decide_eq_true c25
          clear c25
          (first | rw [c25b0] | (simp only [i64_w, i32_w]; rw [c25b0]) | skip)
          have H' := Aside0.mk H
          clear H
          have hnb26 := NB663_664.out
          have hnc26 := NB664_663.out
          have hcz27_0 : w23.cell? ⟨gb663, 0, none⟩ = some (.int .i64 a2_0) := (blk_cell BK663.out 0).trans rfl
          have hcz27_1 : w23.cell? ⟨gb663, 1, none⟩ = some (.bool a2_1) := (blk_cell BK663.out 1).trans rfl
          have hfz27_0 := blk_frozen BK663.out 0
          have hfz27_1 := blk_frozen BK663.out 1
          go_wp2
          go_meet
          case rel => exact ⟨_, (decide (a2_0 ≤ (l1.length : Int))), (by first | rfl | (simp; done) | (simp [*]; done)), H', ⟨by first | omega | exact Nat.le_refl _⟩, ⟨by (with_reducible repeat (first | apply Kd.V_alloc | apply Kd.V_drewN | apply Kd.V_drew)); exact Kd.V_mono HO0.out (fun _ hk => ⟨hk.1.1.1, ⟨hk.2, ⟨hk.1.1.2, hk.1.2⟩⟩⟩)⟩, ⟨by (with_reducible repeat (first | apply Kd.V_alloc | apply Kd.V_drewN | apply Kd.V_drew)); exact Kd.V_mono HO1.out (fun _ hk => ⟨hk.1.1.1, ⟨hk.2, ⟨hk.1.1.2, hk.1.2⟩⟩⟩)⟩, ⟨by (with_reducible repeat (first | apply Kd.N_alloc | apply Kd.N_drewN | apply Kd.N_drew)); exact HO667.out⟩, ⟨by (with_reducible repeat (first | refine blk_drewN ?_ _ | refine blk_drew ?_ | refine blk_alloc ?_ _)); exact BK663.out⟩, ⟨by (with_reducible repeat (first | refine blk_drewN ?_ _ | refine blk_drew ?_ | refine blk_alloc ?_ _)); exact BK664.out⟩, ⟨by repeat (first | (with_reducible first | exact HB.out | apply below_alloc | apply pw_below_drewN | apply below_drew1 | refine below_set ?_ GE663.out | refine below_set ?_ GE664.out) | exact HB.out)⟩⟩
        · rw [if_neg c25] at H
          have c25b0 : decide (0 < a2_0) = false := decide_eq_false c25
          clear c25
          (first | rw [c25b0] | (simp only [i64_w, i32_w]; rw [c25b0]) | skip)
          have H' := Aside0.mk H
          clear H
          have hnb28 := NB663_664.out
          have hnc28 := NB664_663.out
          have hcz29_0 : w23.cell? ⟨gb663, 0, none⟩ = some (.int .i64 a2_0) := (blk_cell BK663.out 0).trans rfl
          have hcz29_1 : w23.cell? ⟨gb663, 1, none⟩ = some (.bool a2_1) := (blk_cell BK663.out 1).trans rfl
          have hfz29_0 := blk_frozen BK663.out 0
          have hfz29_1 := blk_frozen BK663.out 1
          go_wp2
          go_meet
          case rel => exact ⟨_, (false), (by first | rfl | (simp; done) | (simp [*]; done)), H', ⟨by first | omega | exact Nat.le_refl _⟩, ⟨by (with_reducible repeat (first | apply Kd.V_alloc | apply Kd.V_drewN | apply Kd.V_drew)); exact Kd.V_mono HO0.out (fun _ hk => ⟨hk.1.1.1, ⟨hk.2, ⟨hk.1.1.2, hk.1.2⟩⟩⟩)⟩, ⟨by (with_reducible repeat (first | apply Kd.V_alloc | apply Kd.V_drewN | apply Kd.V_drew)); exact Kd.V_mono HO1.out (fun _ hk => ⟨hk.1.1.1, ⟨hk.2, ⟨hk.1.1.2, hk.1.2⟩⟩⟩)⟩, ⟨by (with_reducible repeat (first | apply Kd.N_alloc | apply Kd.N_drewN | apply Kd.N_drew)); exact HO667.out⟩, ⟨by (with_reducible repeat (first | refine blk_drewN ?_ _ | refine blk_drew ?_ | refine blk_alloc ?_ _)); exact BK663.out⟩, ⟨by (with_reducible repeat (first | refine blk_drewN ?_ _ | refine blk_drew ?_ | refine blk_alloc ?_ _)); exact BK664.out⟩, ⟨by repeat (first | (with_reducible first | exact HB.out | apply below_alloc | apply pw_below_drewN | apply below_drew1 | refine below_set ?_ GE663.out | refine below_set ?_ GE664.out) | exact HB.out)⟩⟩
      case rest =>
        clear HC20
        try clear c1
        try clear c2
        try clear p2
        try clear c4
        try clear c5
        try clear c5b0
        try clear c5b1
        try clear c5b2
        try clear c6
        try clear p6
        try clear q6
        try clear hx6
        try clear qi6
        try clear c10
        try clear c12
        try clear c12b0
        try clear c12b1
        try clear c13
        try clear c13b0
        try clear c13b1
        try clear c18
        try clear c22
        try clear c25
        try clear c25b0
        try clear c26
        try clear c28
        try clear hcz11_0
        try clear hcz11_1
        try clear hcz11_2
        try clear hcz11_3
        try clear hcz19_0
        try clear hcz19_1
        try clear hcz19_2
        try clear hcz19_3
        try clear hcz27_0
        try clear hcz27_1
        try clear hcz29_0
        try clear hcz29_1
        try clear hfz11_0
        try clear hfz11_1
        try clear hfz11_2
        try clear hfz11_3
        try clear hfz19_0
        try clear hfz19_1
        try clear hfz19_2
        try clear hfz19_3
        try clear hfz27_0
        try clear hfz27_1
        try clear hfz29_0
        try clear hfz29_1
        try clear hx668_0
        try clear p668
        try clear q668
        obtain ⟨kq, x32_19, rfl, HA, HJ19, HO_0, HO_1, HO_7, BK663, BK664, HB⟩ := hcut
        cases kq with
        | zero => exact absurd HA.out (by simp [sennitref07_Piece.j0])
        | succ kj19 =>
          have H := HA.out
          clear HA
          simp only [sennitref07_Piece.j0] at H
          by_cases c30 : x32_19 = true
          · subst c30
            have H1 : (if 0 ≤ (wrap64 (a2_0 - 1)) then (if (wrap64 (a2_0 - 1)) < (l1.length : Int) then (some (false, rd_L1 l1 (wrap64 (a2_0 - 1)), ([] : List ByteArray), ([] : List (List ByteArray)))) else (none)) else (none)) = some (r1, r2, r3, r4) := by rw [if_pos rfl] at H; exact H
            clear H
            have H := H1
            clear H1
            obtain ⟨ji31, hji31⟩ : ∃ j_ : Int, (wrap64 (a2_0 - 1)) = j_ := ⟨_, rfl⟩
            replace H : (if 0 ≤ (ji31) then (if (ji31) < (l1.length : Int) then (some (false, rd_L1 l1 (ji31), ([] : List ByteArray), ([] : List (List ByteArray)))) else (none)) else (none)) = some (r1, r2, r3, r4) := by first | (rw [hji31] at H; exact H) | (simp only [hji31] at H ⊢; exact H)
            have hji31w : (IntKind.i64.wrap (a2_0 - 1)) = ji31 := (i64_w _).trans hji31
            by_cases c32 : 0 ≤ (ji31)
            · rw [if_pos c32] at H
              have c32b0 : decide (0 ≤ (ji31)) = true := decide_eq_true c32
              clear c32
              by_cases c33 : (ji31) < (l1.length : Int)
              · rw [if_pos c33] at H
                have c33b0 : decide ((ji31) < (l1.length : Int)) = true := decide_eq_true c33
                clear c33
                simp only [Option.some.injEq, Prod.mk.injEq] at H
                obtain ⟨rfl, rfl, rfl, rfl⟩ := H
                have hnb34 := NB663_664.out
                have hnc34 := NB664_663.out
                have hcz35_0 : wc.cell? ⟨gb663, 0, none⟩ = some (.int .i64 a2_0) := (blk_cell BK663.out 0).trans rfl
                have hcz35_1 : wc.cell? ⟨gb663, 1, none⟩ = some (.bool a2_1) := (blk_cell BK663.out 1).trans rfl
                have hfz35_0 := blk_frozen BK663.out 0
                have hfz35_1 := blk_frozen BK663.out 1
                have p669 : 0 ≤ ((ji31) : Int) := of_decide_eq_true (by first | (with_reducible assumption) | assumption)
                have q669 : (ji31) < (l1.length : Int) := of_decide_eq_true (by first | (with_reducible assumption) | assumption)
                obtain ⟨ad669, A669_0, c669_0, e669, hx669_0, hl669_0, hi669_0⟩ := at_L1 (Kd.V_reads' HO_1.out).2.2 (ji31) p669 q669
                cases e669
                obtain ⟨ce669, hce669, hMe669, hcc669⟩ := Kd.V_get HO_1.out [] (ji31) p669 (by first | exact q669 | exact of_decide_eq_true (by first | (with_reducible assumption) | assumption) | (have e_ := (Kd.V_reads' HO_1.out).1; omega))
                obtain ⟨ua669_0, uc669_0, rfl, ul669_0, ge669_0⟩ := Kd.FK_slice_open hMe669
                have hv669_0 := hcc669 0 _ rfl
                rw [Nat.add_zero, show ((Kd.slice 9 Kd.string)).sz = 1 from rfl, Nat.mul_one] at hv669_0
                replace hv669_0 := Option.some.inj (hv669_0.symm.trans hx669_0)
                injection hv669_0 with hva_ hvn_ hvc_
                rw [hva_] at ge669_0
                rw [hvc_] at ul669_0
                have HL669_0 := Aside0.mk (show Kd.V Kd.string 9 _ w.heap.size _ _ (rd_L1 l1 (ji31)) from Kd.V_mk ul669_0 ge669_0)
                clear hva_ hvn_ hvc_ ge669_0 ul669_0
                clear hcc669 hce669
                have HR669_0 := Aside0.mk hi669_0
                have HC669_0 := Aside0.mk hl669_0
                clear hi669_0 hl669_0
                replace p669 := eq_true p669
                replace q669 := eq_true q669
                have hcz36_0 : wc.cell? ⟨gb664, 0, none⟩ = some (.bool false) := (blk_cell BK664.out 0).trans rfl
                have hcz36_1 : wc.cell? ⟨gb664, 1, none⟩ = some (.slice none 0 0) := (blk_cell BK664.out 1).trans rfl
                have hcz36_2 : wc.cell? ⟨gb664, 2, none⟩ = some (.slice none 0 0) := (blk_cell BK664.out 2).trans rfl
                have hcz36_3 : wc.cell? ⟨gb664, 3, none⟩ = some (.slice none 0 0) := (blk_cell BK664.out 3).trans rfl
                have hfz36_0 := blk_frozen BK664.out 0
                have hfz36_1 := blk_frozen BK664.out 1
                have hfz36_2 := blk_frozen BK664.out 2
                have hfz36_3 := blk_frozen BK664.out 3
                go_wp2
                refine bodyPost_ret (results_cell_row rfl _ _ gb664 27 #[.bool false, .slice A669_0 (rd_L1 l1 (ji31)).length c669_0, .slice none 0 0, .slice none 0 0] (0, 0) _ rfl (by (with_reducible repeat (first | refine blk_drewN ?_ _ | refine blk_drew ?_ | refine blk_alloc ?_ _)); refine blk_put (cs := #[.bool false, .slice A669_0 (rd_L1 l1 (ji31)).length c669_0, .slice none 0 0, .slice none 0 0]) ?_ 3 _ rfl; (with_reducible repeat (first | refine blk_drewN ?_ _ | refine blk_drew ?_ | refine blk_alloc ?_ _)); refine blk_put (cs := #[.bool false, .slice A669_0 (rd_L1 l1 (ji31)).length c669_0, .slice none 0 0, .slice none 0 0]) ?_ 2 _ rfl; (with_reducible repeat (first | refine blk_drewN ?_ _ | refine blk_drew ?_ | refine blk_alloc ?_ _)); refine blk_put (cs := #[.bool false, .slice none 0 0, .slice none 0 0, .slice none 0 0]) ?_ 1 _ rfl; (with_reducible repeat (first | refine blk_drewN ?_ _ | refine blk_drew ?_ | refine blk_alloc ?_ _)); refine blk_put (cs := #[.bool false, .slice none 0 0, .slice none 0 0, .slice none 0 0]) ?_ 0 _ rfl; (with_reducible repeat (first | refine blk_drewN ?_ _ | refine blk_drew ?_ | refine blk_alloc ?_ _)); exact BK664.out) Try.underlying27 rfl (by kernel_rfl)) rfl ?_
                exact ⟨_, _, _, by first | rfl | (simp [errW_none, errW_some] <;> rfl) | (simp only [← hji31]; first | rfl | (simp [errW_none, errW_some] <;> rfl)) | (simp [*, errW_none, errW_some] <;> rfl), by (with_reducible repeat (first | apply Kd.V_alloc | apply Kd.V_drewN | apply Kd.V_drew)); exact Kd.V_mono (Kd.V_far (p := ⟨gb664, 3, none⟩) (Kd.V_far (p := ⟨gb664, 2, none⟩) (Kd.V_far (p := ⟨gb664, 1, none⟩) (Kd.V_far (p := ⟨gb664, 0, none⟩) (Kd.V_mono HL669_0.out (fun k_ hk => (⟨hk, hk.2.2.2⟩ : _ ∧ k_ ≠ gb664))) (fun _ hk => hk.2) (.bool false)) (fun _ hk => hk.2) (.slice A669_0 (rd_L1 l1 (ji31)).length c669_0)) (fun _ hk => hk.2) (.slice none 0 0)) (fun _ hk => hk.2) (.slice none 0 0)) (fun _ hk => hk.1.1), Kd.V_nil _ _ _ _ _, Kd.V_nil _ _ _ _ _, by repeat (first | (with_reducible first | exact HB.out | apply below_alloc | apply pw_below_drewN | apply below_drew1 | refine below_set ?_ GE663.out | refine below_set ?_ GE664.out) | exact HB.out)⟩
              · rw [if_neg c33] at H
                exact absurd H (by simp)
            · rw [if_neg c32] at H
              exact absurd H (by simp)
          · replace c30 := Bool.eq_false_iff.mpr c30
            subst c30
            have H1 : (if a2_1 = true then ((sennitref07_union.f kj19 t665).bind fun t670 => (some (false, t670, ([] : List ByteArray), ([] : List (List ByteArray))))) else (some (true, ([] : List ByteArray), l0, l1))) = some (r1, r2, r3, r4) := by rw [if_neg (show ¬ (false = true) by decide)] at H; exact H
            clear H
            have H := H1
            clear H1
            by_cases c37 : a2_1 = true
            · subst c37
              have H1 : ((sennitref07_union.f kj19 t665).bind fun t670 => (some (false, t670, ([] : List ByteArray), ([] : List (List ByteArray))))) = some (r1, r2, r3, r4) := by rw [if_pos rfl] at H; exact H
              clear H
              have H := H1
              clear H1
              replace H := Option.bind_eq_some_iff.mp H
              obtain ⟨t670, A380, H⟩ := H
              replace H : (some (false, t670, ([] : List ByteArray), ([] : List (List ByteArray)))) = some (r1, r2, r3, r4) := H
              have A38 := Aside0.mk A380
              clear A380
              simp only [Option.some.injEq, Prod.mk.injEq] at H
              obtain ⟨rfl, rfl, rfl, rfl⟩ := H
              have hnb39 := NB663_664.out
              have hnc39 := NB664_663.out
              have hcz40_0 : wc.cell? ⟨gb663, 0, none⟩ = some (.int .i64 a2_0) := (blk_cell BK663.out 0).trans rfl
              have hcz40_1 : wc.cell? ⟨gb663, 1, none⟩ = some (.bool true) := (blk_cell BK663.out 1).trans rfl
              have hfz40_0 := blk_frozen BK663.out 0
              have hfz40_1 := blk_frozen BK663.out 1
              go_wp2_with (first | ((with_reducible refine gate_callee (f := 69) rfl ?_); refine goesL_ (some 43) rfl rfl Try.func69 (by kernel_rfl) rfl #[.slice Ao24 t665.length co24] rfl (by (try simp only [List.map_toArray, List.map_cons, List.map_nil]); first | done | rfl | (simp only [List.length_drop, List.length_take]; rfl)) ?_; (with_reducible refine (sennitref07_union.calls kj19 _ _ t665 t670 _ ?side1 ?side2 A38.out).mono ?_); (case side1 => repeat (first | exact (Kd.N_reads' HO_7.out).2.2 | (with_reducible refine Kd.C_alloc ?_ _) | (with_reducible refine Kd.C_drewN ?_ _) | (with_reducible refine Kd.C_drew ?_))); (case side2 => exact (Kd.N_reads' HO_7.out).2.1); rintro e w41 ⟨v671, rfl, ho0, hb⟩; refine ⟨_, rfl, ?_⟩; have n0_ := Aside0.mk (Kd.V_elder' (by (with_reducible repeat (first | apply Kd.V_alloc | apply Kd.V_drewN | apply Kd.V_drew)); exact HO_0.out) (Kd.R_base ho0) hb); have n1_ := Aside0.mk (Kd.V_elder' (by (with_reducible repeat (first | apply Kd.V_alloc | apply Kd.V_drewN | apply Kd.V_drew)); exact HO_1.out) (Kd.R_base ho0) hb); have n2_ := Aside0.mk (Kd.N_elder' (by (with_reducible repeat (first | apply Kd.N_alloc | apply Kd.N_drewN | apply Kd.N_drew)); exact HO_7.out) (Kd.R_base ho0) hb); have n3_ := Aside0.mk (Kd.R_lower (Kd.R_newM (M := fun k_ => (w.heap.size ≤ k_)) ho0 (below_size (by repeat (first | (with_reducible first | exact HB.out | apply below_alloc | apply pw_below_drewN | apply below_drew1 | refine below_set ?_ GE663.out | refine below_set ?_ GE664.out) | exact HB.out))) (fun k_ h_ => h_)) (below_size (by repeat (first | (with_reducible first | exact HB.out | apply below_alloc | apply pw_below_drewN | apply below_drew1 | refine below_set ?_ GE663.out | refine below_set ?_ GE664.out) | exact HB.out)))); have n4_ := Aside0.mk (blk_below (g := gb663) (o := .cells #[.int .i64 a2_0, .bool true] 30 (0, 0)) (by (with_reducible repeat (first | refine blk_drewN ?_ _ | refine blk_drew ?_ | refine blk_alloc ?_ _)); exact BK663.out) hb); have n5_ := Aside0.mk (blk_below (g := gb664) (o := .cells #[.bool false, .slice none 0 0, .slice none 0 0, .slice none 0 0] 27 (0, 0)) (by (with_reducible repeat (first | refine blk_drewN ?_ _ | refine blk_drew ?_ | refine blk_alloc ?_ _)); exact BK664.out) hb); have n6_ := Aside0.mk (below_step (by repeat (first | (with_reducible first | exact HB.out | apply below_alloc | apply pw_below_drewN | apply below_drew1 | refine below_set ?_ GE663.out | refine below_set ?_ GE664.out) | exact HB.out)) hb); clear HO_0; clear HO_1; clear HO_7; clear BK663; clear BK664; clear HB; have HO_0 := n0_; have HO_1 := n1_; have HO_7 := n2_; have HO672 := n3_; have BK663 := n4_; have BK664 := n5_; have HB := n6_; clear n0_ n1_ n2_ n3_ n4_ n5_ n6_; (try clear hb); (try clear hb2); (try clear hk); (try clear hi); (try clear ho0); obtain ⟨Ao42, co42, eo42⟩ := Kd.R_slice HO672.out; subst eo42; have hcz43_0 : w41.cell? ⟨gb664, 0, none⟩ = some (.bool false) := (blk_cell BK664.out 0).trans rfl; have hcz43_1 : w41.cell? ⟨gb664, 1, none⟩ = some (.slice none 0 0) := (blk_cell BK664.out 1).trans rfl; have hcz43_2 : w41.cell? ⟨gb664, 2, none⟩ = some (.slice none 0 0) := (blk_cell BK664.out 2).trans rfl; have hcz43_3 : w41.cell? ⟨gb664, 3, none⟩ = some (.slice none 0 0) := (blk_cell BK664.out 3).trans rfl; have hfz43_0 := blk_frozen BK664.out 0; have hfz43_1 := blk_frozen BK664.out 1; have hfz43_2 := blk_frozen BK664.out 2; have hfz43_3 := blk_frozen BK664.out 3))
              refine bodyPost_ret (results_cell_row rfl _ _ gb664 27 #[.bool false, .slice Ao42 t670.length co42, .slice none 0 0, .slice none 0 0] (0, 0) _ rfl (by (with_reducible repeat (first | refine blk_drewN ?_ _ | refine blk_drew ?_ | refine blk_alloc ?_ _)); refine blk_put (cs := #[.bool false, .slice Ao42 t670.length co42, .slice none 0 0, .slice none 0 0]) ?_ 3 _ rfl; (with_reducible repeat (first | refine blk_drewN ?_ _ | refine blk_drew ?_ | refine blk_alloc ?_ _)); refine blk_put (cs := #[.bool false, .slice Ao42 t670.length co42, .slice none 0 0, .slice none 0 0]) ?_ 2 _ rfl; (with_reducible repeat (first | refine blk_drewN ?_ _ | refine blk_drew ?_ | refine blk_alloc ?_ _)); refine blk_put (cs := #[.bool false, .slice none 0 0, .slice none 0 0, .slice none 0 0]) ?_ 1 _ rfl; (with_reducible repeat (first | refine blk_drewN ?_ _ | refine blk_drew ?_ | refine blk_alloc ?_ _)); refine blk_put (cs := #[.bool false, .slice none 0 0, .slice none 0 0, .slice none 0 0]) ?_ 0 _ rfl; (with_reducible repeat (first | refine blk_drewN ?_ _ | refine blk_drew ?_ | refine blk_alloc ?_ _)); exact BK664.out) Try.underlying27 rfl (by kernel_rfl)) rfl ?_
              exact ⟨_, _, _, by first | rfl | (simp [errW_none, errW_some] <;> rfl) | (simp [*, errW_none, errW_some] <;> rfl), Kd.V_mono (Kd.R_V (by (with_reducible repeat (first | apply Kd.R_alloc | apply Kd.R_drewN | apply Kd.R_drew)); exact Kd.R_mono (Kd.R_far (p := ⟨gb664, 3, none⟩) (Kd.R_far (p := ⟨gb664, 2, none⟩) (Kd.R_far (p := ⟨gb664, 1, none⟩) (Kd.R_far (p := ⟨gb664, 0, none⟩) (Kd.R_types HO672.out BK664.out (by decide)) (fun _ hk => hk.2) (.bool false)) (fun _ hk => hk.2) (.slice Ao42 t670.length co42)) (fun _ hk => hk.2) (.slice none 0 0)) (fun _ hk => hk.2) (.slice none 0 0)) (fun _ hk => hk.1.1))) (fun k_ hk => by first | exact ⟨(.inr (hk.1)), hk.2⟩ | exact (.inr (hk))), Kd.V_nil _ _ _ _ _, Kd.V_nil _ _ _ _ _, by repeat (first | (with_reducible first | exact HB.out | apply below_alloc | apply pw_below_drewN | apply below_drew1 | refine below_set ?_ GE663.out | refine below_set ?_ GE664.out) | exact HB.out)⟩
            · replace c37 := Bool.eq_false_iff.mpr c37
              subst c37
              have H1 : (some (true, ([] : List ByteArray), l0, l1)) = some (r1, r2, r3, r4) := by rw [if_neg (show ¬ (false = true) by decide)] at H; exact H
              clear H
              have H := H1
              clear H1
              simp only [Option.some.injEq, Prod.mk.injEq] at H
              obtain ⟨rfl, rfl, rfl, rfl⟩ := H
              have hnb44 := NB663_664.out
              have hnc44 := NB664_663.out
              have hcz45_0 : wc.cell? ⟨gb663, 0, none⟩ = some (.int .i64 a2_0) := (blk_cell BK663.out 0).trans rfl
              have hcz45_1 : wc.cell? ⟨gb663, 1, none⟩ = some (.bool false) := (blk_cell BK663.out 1).trans rfl
              have hfz45_0 := blk_frozen BK663.out 0
              have hfz45_1 := blk_frozen BK663.out 1
              have hcz46_0 : wc.cell? ⟨gb664, 0, none⟩ = some (.bool false) := (blk_cell BK664.out 0).trans rfl
              have hcz46_1 : wc.cell? ⟨gb664, 1, none⟩ = some (.slice none 0 0) := (blk_cell BK664.out 1).trans rfl
              have hcz46_2 : wc.cell? ⟨gb664, 2, none⟩ = some (.slice none 0 0) := (blk_cell BK664.out 2).trans rfl
              have hcz46_3 : wc.cell? ⟨gb664, 3, none⟩ = some (.slice none 0 0) := (blk_cell BK664.out 3).trans rfl
              have hfz46_0 := blk_frozen BK664.out 0
              have hfz46_1 := blk_frozen BK664.out 1
              have hfz46_2 := blk_frozen BK664.out 2
              have hfz46_3 := blk_frozen BK664.out 3
              go_wp2
              refine bodyPost_ret (results_cell_row rfl _ _ gb664 27 #[.bool true, .slice none 0 0, .slice A0 l0.length c0, .slice A1 l1.length c1] (0, 0) _ rfl (by (with_reducible repeat (first | refine blk_drewN ?_ _ | refine blk_drew ?_ | refine blk_alloc ?_ _)); refine blk_put (cs := #[.bool true, .slice none 0 0, .slice A0 l0.length c0, .slice none 0 0]) ?_ 3 _ rfl; (with_reducible repeat (first | refine blk_drewN ?_ _ | refine blk_drew ?_ | refine blk_alloc ?_ _)); refine blk_put (cs := #[.bool true, .slice none 0 0, .slice none 0 0, .slice none 0 0]) ?_ 2 _ rfl; (with_reducible repeat (first | refine blk_drewN ?_ _ | refine blk_drew ?_ | refine blk_alloc ?_ _)); refine blk_put (cs := #[.bool true, .slice none 0 0, .slice none 0 0, .slice none 0 0]) ?_ 1 _ rfl; (with_reducible repeat (first | refine blk_drewN ?_ _ | refine blk_drew ?_ | refine blk_alloc ?_ _)); refine blk_put (cs := #[.bool false, .slice none 0 0, .slice none 0 0, .slice none 0 0]) ?_ 0 _ rfl; (with_reducible repeat (first | refine blk_drewN ?_ _ | refine blk_drew ?_ | refine blk_alloc ?_ _)); exact BK664.out) Try.underlying27 rfl (by kernel_rfl)) rfl ?_
              exact ⟨_, _, _, by first | rfl | (simp [errW_none, errW_some] <;> rfl) | (simp [*, errW_none, errW_some] <;> rfl), Kd.V_nil _ _ _ _ _, by (with_reducible repeat (first | apply Kd.V_alloc | apply Kd.V_drewN | apply Kd.V_drew)); exact Kd.V_mono (Kd.V_far (p := ⟨gb664, 3, none⟩) (Kd.V_far (p := ⟨gb664, 2, none⟩) (Kd.V_far (p := ⟨gb664, 1, none⟩) (Kd.V_far (p := ⟨gb664, 0, none⟩) (Kd.V_mono HO_0.out (fun k_ hk => (⟨hk, hk.2.2.2⟩ : _ ∧ k_ ≠ gb664))) (fun _ hk => hk.2) (.bool true)) (fun _ hk => hk.2) (.slice none 0 0)) (fun _ hk => hk.2) (.slice A0 l0.length c0)) (fun _ hk => hk.2) (.slice A1 l1.length c1)) (fun _ hk => hk.1.1), by (with_reducible repeat (first | apply Kd.V_alloc | apply Kd.V_drewN | apply Kd.V_drew)); exact Kd.V_mono (Kd.V_far (p := ⟨gb664, 3, none⟩) (Kd.V_far (p := ⟨gb664, 2, none⟩) (Kd.V_far (p := ⟨gb664, 1, none⟩) (Kd.V_far (p := ⟨gb664, 0, none⟩) (Kd.V_mono HO_1.out (fun k_ hk => (⟨hk, hk.2.2.2⟩ : _ ∧ k_ ≠ gb664))) (fun _ hk => hk.2) (.bool true)) (fun _ hk => hk.2) (.slice none 0 0)) (fun _ hk => hk.2) (.slice A0 l0.length c0)) (fun _ hk => hk.2) (.slice A1 l1.length c1)) (fun _ hk => hk.1.1), by repeat (first | (with_reducible first | exact HB.out | apply below_alloc | apply pw_below_drewN | apply below_drew1 | refine below_set ?_ GE663.out | refine below_set ?_ GE664.out) | exact HB.out)⟩

end Go.Proofs.Ytiaoppikdgoieaa.M
