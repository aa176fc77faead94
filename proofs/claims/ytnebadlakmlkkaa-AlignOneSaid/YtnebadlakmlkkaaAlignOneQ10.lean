/- Texts of the claim AlignOne, put together (part 10): By a program of this session: a Go function as a Lean function, and that the machine's call does what it says. The plain law of AlignOne: what the printed functions answer is true. -/
import Derived.ArgAppend
import Derived.Below
import Derived.BigQuiet
import Derived.Deep.AppendLies
import Derived.Deep.CutBlock
import Derived.Deep.DeepCutAuto
import Derived.Deep.DrawnRows
import Derived.Deep.Draws
import Derived.Deep.LoopGhost
import Derived.Deep.OwnRows
import Derived.Deep.QuietTactic
import Derived.Deep.RegionHeld3
import Derived.KernelRfl
import Derived.Laws.BitsLemmas
import Derived.Laws.BytesArg
import Derived.Laws.IdiomCopy
import Derived.Laws.MakeOwn
import Derived.Laws.OwnMore
import Derived.Laws.Rows
import Derived.Laws.Slices
import Derived.Laws.StructEq
import Derived.Lib.AppendStr
import Derived.Lib.ConvBytes
import Derived.LoopIn
import Derived.LoopNIn
import Derived.Maps.AppendAt
import Derived.OrdersHeld
import Derived.OwnWalk
import Derived.OwnWalkIn
import Derived.RangeFuncBound
import Derived.RangeFuncBox
import Derived.RangeFuncCalls
import Derived.RangeFuncLeaves
import Derived.RangeFuncNested
import Derived.RowKit
import Derived.RowKit3
import Derived.Shelf.Abstract
import Derived.Shelf.RegionOpen
import Derived.Tactics
import Derived.TacticsInMore
import Derived.Test.YtnebadlakmlkkaaProg
import Derived.WalkKit
import Derived.WalkMore
import Derived.WideLaws
import Derived.Test.YtnebadlakmlkkaaAlignOneQ9
namespace Go.Proofs.Ytnebadlakmlkkaa.M
open Go.RowKit Go.Proofs.YtnebadlakmlkkaaW.PrintWords Go.Proofs.YtnebadlakmlkkaaW.PrintLast Go.Proofs.YtnebadlakmlkkaaW.PrintMore
attribute [local go_sem] max2_int min2_int max_two min_two max_three min_three max_four min_four
set_option linter.unusedVariables false
set_option linter.unusedSimpArgs false

/-! ### sennitlaw05_AlignOne: function 13 -/
def sennitlaw05_AlignOne.l0 : Nat → Bool → List (S60) → List (S39) → List (S60) → Int → Option (Bool)
  | 0, _, _, _, _, _ => none
  | k + 1, x5, x9, x11, x12, x13 => if x13 < (x11.length : Int) then (if 0 ≤ x13 then (if ((rd_T39 x11 x13).f0 = true) then (sennitlaw05_AlignOne.l0 k x5 x9 x11 x12 (wrap64 (x13 + 1))) else (if (((rd_T39 x11 x13).f2).length : Int) = 1 then (if 0 < (((rd_T39 x11 x13).f2).length : Int) then (if x12.length < 4398046511104 then (sennitlaw05_AlignOne.l0 k x5 x9 x11 (x12 ++ [(⟨(⟨(rd_T39 x11 x13).f1.f0, (rd_T39 x11 x13).f1.f1⟩ : S36), (⟨(rd_T36 ((rd_T39 x11 x13).f2) 0).f0, (rd_T36 ((rd_T39 x11 x13).f2) 0).f1⟩ : S36)⟩ : S60)]) (wrap64 (x13 + 1))) else (none)) else (none)) else (sennitlaw05_AlignOne.l0 k x5 x9 x11 x12 (wrap64 (x13 + 1))))) else (none)) else (if x5 = true then ((sennitref04_Same.f k x12 x9).bind fun t409 => (some t409)) else (some false))
def sennitlaw05_AlignOne.f (k : Nat) (l0 : List Int) (l1 : List Int) : Option (Bool) := (sennitlaw05_awake.f k).bind fun t376 => ((some (([l1] : List (List Int)) : List (List Int))).bind fun y377 => ((sennitref05_Few.f k l0 y377).bind fun t380 => (if t380 = true then ((sennitref03_Ints.f k l0).bind fun t381 => ((sennitref05_Lists.f k y377).bind fun t384 => ((sennitref05_Matches.f k t381 t384).bind fun bt387 => (if 0 < (bt387.2.length : Int) then ((edit_Changes.f k (rd_L1 bt387.2 0) (l1.length : Int)).bind fun bt394 => ((sennitlaw05_cut.f k l0 y377).bind fun t398 => (sennitlaw05_AlignOne.l0 k t376 bt394.1 t398 ([] : List (S60)) 0))) else (none))))) else (some t376))))
theorem sennitlaw05_AlignOne.mono_l : ∀ k, (∀ y0 y1 y2 y3 y4, LeO (sennitlaw05_AlignOne.l0 k y0 y1 y2 y3 y4) (sennitlaw05_AlignOne.l0 (k + 1) y0 y1 y2 y3 y4))
  | 0 => fun _ _ _ _ _ r h => by simp [sennitlaw05_AlignOne.l0] at h
  | k + 1 => by
    have ih0 := sennitlaw05_AlignOne.mono_l k
    · intro y0 y1 y2 y3 y4
      unfold sennitlaw05_AlignOne.l0
      repeat' first
      | (with_reducible exact ih0 _ _ _ _ _)
      | (with_reducible exact edit_Changes.mono _ _ _)
      | (with_reducible exact sennitlaw05_awake.mono _)
      | (with_reducible exact sennitlaw05_cut.mono _ _ _)
      | (with_reducible exact sennitref03_Ints.mono _ _)
      | (with_reducible exact sennitref04_Same.mono _ _ _)
      | (with_reducible exact sennitref05_Few.mono _ _ _)
      | (with_reducible exact sennitref05_Lists.mono _ _)
      | (with_reducible exact sennitref05_Matches.mono _ _ _)
      | (with_reducible exact LeO.refl _)
      | (with_reducible exact LeO.none _)
      | (with_reducible refine LeO.ite ?_ ?_)
      | (with_reducible refine LeO.bind ?_ (fun _ => ?_))
      | exact ih0 _ _ _ _ _
      | exact edit_Changes.mono _ _ _
      | exact sennitlaw05_awake.mono _
      | exact sennitlaw05_cut.mono _ _ _
      | exact sennitref03_Ints.mono _ _
      | exact sennitref04_Same.mono _ _ _
      | exact sennitref05_Few.mono _ _ _
      | exact sennitref05_Lists.mono _ _
      | exact sennitref05_Matches.mono _ _ _
      | exact LeO.none _
      | refine LeO.ite ?_ ?_
      | refine LeO.bind ?_ (fun _ => ?_)
theorem sennitlaw05_AlignOne.mono : ∀ a0 a1 k, LeO (sennitlaw05_AlignOne.f k a0 a1) (sennitlaw05_AlignOne.f (k + 1) a0 a1) := by
  intro a0 a1 k
  have ih0 := sennitlaw05_AlignOne.mono_l k
  unfold sennitlaw05_AlignOne.f
  repeat' first
      | (with_reducible exact ih0 _ _ _ _ _)
      | (with_reducible exact edit_Changes.mono _ _ _)
      | (with_reducible exact sennitlaw05_awake.mono _)
      | (with_reducible exact sennitlaw05_cut.mono _ _ _)
      | (with_reducible exact sennitref03_Ints.mono _ _)
      | (with_reducible exact sennitref04_Same.mono _ _ _)
      | (with_reducible exact sennitref05_Few.mono _ _ _)
      | (with_reducible exact sennitref05_Lists.mono _ _)
      | (with_reducible exact sennitref05_Matches.mono _ _ _)
      | (with_reducible exact LeO.refl _)
      | (with_reducible exact LeO.none _)
      | (with_reducible refine LeO.ite ?_ ?_)
      | (with_reducible refine LeO.bind ?_ (fun _ => ?_))
      | exact ih0 _ _ _ _ _
      | exact edit_Changes.mono _ _ _
      | exact sennitlaw05_awake.mono _
      | exact sennitlaw05_cut.mono _ _ _
      | exact sennitref03_Ints.mono _ _
      | exact sennitref04_Same.mono _ _ _
      | exact sennitref05_Few.mono _ _ _
      | exact sennitref05_Lists.mono _ _
      | exact sennitref05_Matches.mono _ _ _
      | exact LeO.none _
      | refine LeO.ite ?_ ?_
      | refine LeO.bind ?_ (fun _ => ?_)
def sennitlaw05_AlignOne.T13 : Bool × List (List Nat × List Nat) := (true, [([], []), ([], []), ([], []), ([1, 2], [1, 2]), ([3], [3]), ([4], [4]), ([], []), ([], []), ([6, 7], [6, 7]), ([8], [8]), ([9], [9]), ([10], [10]), ([11], [11]), ([5, 12], [5, 12]), ([13], [13]), ([0, 14], [0, 14]), ([15, 15, 0, 1, 2, 3, 4, 5, 6, 7, 8, 9, 10, 11, 12, 13, 14, 15], [0, 15])])
def sennitlaw05_AlignOne.B13 : List Nat := [0, 0, 0, 6, 14, 30, 0, 0, 192, 448, 960, 1984, 4032, 8190, 16382, 32767, 65535]
theorem sennitlaw05_AlignOne.tab13 : rtab .any (opsOf Try.f13 13) = sennitlaw05_AlignOne.T13 := by kernel_rfl
theorem sennitlaw05_AlignOne.bits13 : waitsOk sennitlaw05_AlignOne.T13.2 sennitlaw05_AlignOne.B13 = true := by kernel_rfl
set_option maxHeartbeats 8000000 in
set_option maxRecDepth 100000 in
theorem sennitlaw05_AlignOne.calls (k : Nat) (A0 : Option Addr) (c0 : Nat) (l0 : List Int) (P1_ : Nat → Prop) (A1 : Option Addr) (c1 : Nat) (l1 : List Int) (r : Bool) (w : World) (hr0 : Kd.C (Kd.int .u8) w A0 l0.length l0) (hc0 : l0.length ≤ c0) (hs1 : Kd.V (Kd.int .u8) 5 w w.heap.size (fun k_ => P1_ k_) (.slice A1 l1.length c1) l1) (h : sennitlaw05_AlignOne.f k l0 l1 = some r) :
    Calls Try.prog 13 #[.slice A0 l0.length c0, .slice A1 l1.length c1] w fun e w' => e = .returned (.bool r) ∧ Below w.heap.size w w' := by
  have hu36 := Try.underlying36
  have hu60 := Try.underlying60
  have HR0 := Aside0.mk hr0
  have HC0 := Aside0.mk hc0
  clear hr0 hc0
  have HO1 := Aside0.mk (show Kd.V (Kd.int .u8) 5 w w.heap.size (fun k_ => (P1_ k_ ∨ w.heap.size ≤ k_)) (.slice A1 l1.length c1) l1 from Kd.V_mono hs1 (fun k_ hk => .inl hk))
  have HB := Aside0.mk (Below.refl w.heap.size w)
  have H : ((sennitlaw05_awake.f k).bind fun t376 => ((some (([l1] : List (List Int)) : List (List Int))).bind fun y377 => ((sennitref05_Few.f k l0 y377).bind fun t380 => (if t380 = true then ((sennitref03_Ints.f k l0).bind fun t381 => ((sennitref05_Lists.f k y377).bind fun t384 => ((sennitref05_Matches.f k t381 t384).bind fun bt387 => (if 0 < (bt387.2.length : Int) then ((edit_Changes.f k (rd_L1 bt387.2 0) (l1.length : Int)).bind fun bt394 => ((sennitlaw05_cut.f k l0 y377).bind fun t398 => (sennitlaw05_AlignOne.l0 k t376 bt394.1 t398 ([] : List (S60)) 0))) else (none))))) else (some t376))))) = some r := h
  clear h
  replace H := Option.bind_eq_some_iff.mp H
  obtain ⟨t376, A30, H⟩ := H
  replace H : ((some (([l1] : List (List Int)) : List (List Int))).bind fun y377 => ((sennitref05_Few.f k l0 y377).bind fun t380 => (if t380 = true then ((sennitref03_Ints.f k l0).bind fun t381 => ((sennitref05_Lists.f k y377).bind fun t384 => ((sennitref05_Matches.f k t381 t384).bind fun bt387 => (if 0 < (bt387.2.length : Int) then ((edit_Changes.f k (rd_L1 bt387.2 0) (l1.length : Int)).bind fun bt394 => ((sennitlaw05_cut.f k l0 y377).bind fun t398 => (sennitlaw05_AlignOne.l0 k t376 bt394.1 t398 ([] : List (S60)) 0))) else (none))))) else (some t376)))) = some r := H
  have A3 := Aside0.mk A30
  clear A30
  obtain ⟨y377, hy377⟩ : ∃ y_ : List (List Int), y_ = (([l1] : List (List Int))) := ⟨_, rfl⟩
  replace H : ((sennitref05_Few.f k l0 y377).bind fun t380 => (if t380 = true then ((sennitref03_Ints.f k l0).bind fun t381 => ((sennitref05_Lists.f k y377).bind fun t384 => ((sennitref05_Matches.f k t381 t384).bind fun bt387 => (if 0 < (bt387.2.length : Int) then ((edit_Changes.f k (rd_L1 bt387.2 0) (l1.length : Int)).bind fun bt394 => ((sennitlaw05_cut.f k l0 y377).bind fun t398 => (sennitlaw05_AlignOne.l0 k t376 bt394.1 t398 ([] : List (S60)) 0))) else (none))))) else (some t376))) = some r := by first | (rw [hy377]; with_reducible exact H) | (have H2_ := (Option.bind_some _ _).symm.trans H; rw [hy377]; with_reducible exact H2_) | (have H2_ := (Option.bind_some _ _).symm.trans H; with_reducible exact H2_) | with_reducible exact H | (rw [hy377]; exact H) | exact H
  have Ny377 := Aside0.mk hy377
  clear hy377
  replace H := Option.bind_eq_some_iff.mp H
  obtain ⟨t380, A40, H⟩ := H
  replace H : (if t380 = true then ((sennitref03_Ints.f k l0).bind fun t381 => ((sennitref05_Lists.f k y377).bind fun t384 => ((sennitref05_Matches.f k t381 t384).bind fun bt387 => (if 0 < (bt387.2.length : Int) then ((edit_Changes.f k (rd_L1 bt387.2 0) (l1.length : Int)).bind fun bt394 => ((sennitlaw05_cut.f k l0 y377).bind fun t398 => (sennitlaw05_AlignOne.l0 k t376 bt394.1 t398 ([] : List (S60)) 0))) else (none))))) else (some t376)) = some r := H
  have A4 := Aside0.mk A40
  clear A40
  by_cases c5 : t380 = true
  · subst c5
    have H1 : ((sennitref03_Ints.f k l0).bind fun t381 => ((sennitref05_Lists.f k y377).bind fun t384 => ((sennitref05_Matches.f k t381 t384).bind fun bt387 => (if 0 < (bt387.2.length : Int) then ((edit_Changes.f k (rd_L1 bt387.2 0) (l1.length : Int)).bind fun bt394 => ((sennitlaw05_cut.f k l0 y377).bind fun t398 => (sennitlaw05_AlignOne.l0 k t376 bt394.1 t398 ([] : List (S60)) 0))) else (none))))) = some r := by rw [if_pos rfl] at H; exact H
    clear H
    have H := H1
    clear H1
    replace H := Option.bind_eq_some_iff.mp H
    obtain ⟨t381, A60, H⟩ := H
    replace H : ((sennitref05_Lists.f k y377).bind fun t384 => ((sennitref05_Matches.f k t381 t384).bind fun bt387 => (if 0 < (bt387.2.length : Int) then ((edit_Changes.f k (rd_L1 bt387.2 0) (l1.length : Int)).bind fun bt394 => ((sennitlaw05_cut.f k l0 y377).bind fun t398 => (sennitlaw05_AlignOne.l0 k t376 bt394.1 t398 ([] : List (S60)) 0))) else (none)))) = some r := H
    have A6 := Aside0.mk A60
    clear A60
    replace H := Option.bind_eq_some_iff.mp H
    obtain ⟨t384, A70, H⟩ := H
    replace H : ((sennitref05_Matches.f k t381 t384).bind fun bt387 => (if 0 < (bt387.2.length : Int) then ((edit_Changes.f k (rd_L1 bt387.2 0) (l1.length : Int)).bind fun bt394 => ((sennitlaw05_cut.f k l0 y377).bind fun t398 => (sennitlaw05_AlignOne.l0 k t376 bt394.1 t398 ([] : List (S60)) 0))) else (none))) = some r := H
    have A7 := Aside0.mk A70
    clear A70
    replace H := Option.bind_eq_some_iff.mp H
    obtain ⟨⟨t387, t388⟩, A80, H⟩ := H
    replace H : (if 0 < (t388.length : Int) then ((edit_Changes.f k (rd_L1 t388 0) (l1.length : Int)).bind fun bt394 => ((sennitlaw05_cut.f k l0 y377).bind fun t398 => (sennitlaw05_AlignOne.l0 k t376 bt394.1 t398 ([] : List (S60)) 0))) else (none)) = some r := H
    have A8 := Aside0.mk A80
    clear A80
    by_cases c9 : 0 < (t388.length : Int)
    · rw [if_pos c9] at H
      have c9b0 : decide (0 < (t388.length : Int)) = true := decide_eq_true c9
      have c9b1 : decide (0 < t388.length) = true := decide_eq_true (by omega)
      clear c9
      replace H := Option.bind_eq_some_iff.mp H
      obtain ⟨⟨t394, t395⟩, A100, H⟩ := H
      replace H : ((sennitlaw05_cut.f k l0 y377).bind fun t398 => (sennitlaw05_AlignOne.l0 k t376 t394 t398 ([] : List (S60)) 0)) = some r := H
      have A10 := Aside0.mk A100
      clear A100
      replace H := Option.bind_eq_some_iff.mp H
      obtain ⟨t398, A110, H⟩ := H
      replace H : (sennitlaw05_AlignOne.l0 k t376 t394 t398 ([] : List (S60)) 0) = some r := H
      have A11 := Aside0.mk A110
      clear A110
      have H' := Aside0.mk H
      clear H
      go_enter Try.func13, Try.ntmps13
      go_wp2_with (first | ((with_reducible refine gate_callee (f := 14) rfl ?_); refine goesL_ (some 14) rfl rfl Try.func14 (by kernel_rfl) rfl #[] rfl (by (try simp only [List.map_toArray, List.map_cons, List.map_nil]); first | done | rfl | (simp only [List.length_drop, List.length_take]; rfl)) ?_; (with_reducible refine (sennitlaw05_awake.calls k  t376 _ A3.out).mono ?_); rintro e w12 ⟨rfl, hb⟩; refine ⟨_, rfl, ?_⟩; have n0_ := Aside0.mk (Kd.V_below (by (with_reducible repeat (first | apply Kd.V_alloc | apply Kd.V_drewN | apply Kd.V_drew)); exact HO1.out) hb); have n1_ := Aside0.mk (below_step (by repeat (first | (with_reducible first | exact HB.out | apply below_alloc | apply pw_below_drewN | apply below_drew1) | exact HB.out)) hb); clear HO1; clear HB; have HO1 := n0_; have HB := n1_; clear n0_ n1_; (try clear hb); (try clear hb2); (try clear hk); (try clear hi)) | ((with_reducible refine gate_dst (N := 16) rfl ?_); (try (refine gate_guard (by rfl) ?_; dsimp only)); refine Kd.N_lit (Kd.slice 5 (Kd.int .u8)) _ 22 ?hg (N' := 16) ?hd (xs := ([l1] : List (List Int))) (inner := [.slice A1 l1.length c1]) (ok := (fun k_ => (P1_ k_ ∨ w.heap.size ≤ k_))) (okp := (fun k_ => (P1_ k_ ∨ w.heap.size ≤ k_))) ?hr ?hp (fun _ hk => hk) ((show ∀ k_, w12.heap.size ≤ k_ → (fun k_ => (P1_ k_ ∨ w.heap.size ≤ k_)) k_ from fun k_ hk => (.inr (Nat.le_trans (below_size (by repeat (first | (with_reducible first | exact HB.out | apply below_alloc | apply pw_below_drewN | apply below_drew1) | exact HB.out))) hk))) _ (Nat.le_refl _)) (Below.refl _ _) (Nat.le_refl _) (by simp) ?_; (case hd => rfl); (case hg => rfl); (case hr => first | (go_simp; done) | (go_simp; rfl)); (case hp => exact (Reps.one (show Kd.FK (Kd.slice 5 (Kd.int .u8)) _ _ l1 [.slice A1 l1.length c1] from (Kd.FK_slice_mk (Kd.V_reads' (Kd.V_mono (ok' := (fun k_ => (P1_ k_ ∨ w.heap.size ≤ k_))) (HO1.out) (fun k_ hk => hk))).2.1 (Kd.V_F (Kd.V_mono (ok' := (fun k_ => (P1_ k_ ∨ w.heap.size ≤ k_))) (HO1.out) (fun k_ hk => hk))))) (Reps.none _ _))); intro v378 w13 ho14 hb hg_ hnew_; clear hg_ hnew_; (first | rw [← Ny377.out] at ho14 | (simp only [Int.reduceToNat] at ho14; rw [← Ny377.out] at ho14)); have n0_ := Aside0.mk (Kd.V_elder' (by (with_reducible repeat (first | apply Kd.V_alloc | apply Kd.V_drewN | apply Kd.V_drew)); exact HO1.out) (Kd.N_base ho14) hb); have n1_ := Aside0.mk (Kd.N_lower ho14 (below_size (by repeat (first | (with_reducible first | exact HB.out | apply below_alloc | apply pw_below_drewN | apply below_drew1) | exact HB.out)))); have n2_ := Aside0.mk (below_step (by repeat (first | (with_reducible first | exact HB.out | apply below_alloc | apply pw_below_drewN | apply below_drew1) | exact HB.out)) hb); clear HO1; clear HB; have HO1 := n0_; have HO379 := n1_; have HB := n2_; clear n0_ n1_ n2_; clear hb ho14; obtain ⟨Ao15, co15, eo15⟩ := Kd.N_slice HO379.out; subst eo15) | ((with_reducible refine gate_callee (f := 15) rfl ?_); refine goesL_ (some 19) rfl rfl Try.func15 (by kernel_rfl) rfl #[.slice A0 l0.length c0, .slice Ao15 y377.length co15] rfl (by (try simp only [List.map_toArray, List.map_cons, List.map_nil]); first | done | rfl | (simp only [List.length_drop, List.length_take]; rfl)) ?_; (with_reducible refine (sennitref05_Few.calls k _ _ l0 _ _ y377 true _ ?side1 ?side2 ?side3 ?side4 A4.out).mono ?_); (case side1 => repeat (first | exact (Kd.C_below HR0.out HB.out) | (with_reducible refine Kd.C_alloc ?_ _) | (with_reducible refine Kd.C_drewN ?_ _) | (with_reducible refine Kd.C_drew ?_))); (case side2 => exact HC0.out); (case side3 => repeat (first | exact (Kd.N_reads' HO379.out).2.2 | (with_reducible refine Kd.C_alloc ?_ _) | (with_reducible refine Kd.C_drewN ?_ _) | (with_reducible refine Kd.C_drew ?_))); (case side4 => exact (Kd.N_reads' HO379.out).2.1); rintro e w' ⟨rfl, ⟨nd, rfl⟩⟩; refine ⟨_, rfl, ?_⟩) | ((with_reducible refine gate_callee (f := 20) rfl ?_); refine goesL_ (some 24) rfl rfl Try.func20 (by kernel_rfl) rfl #[.slice A0 l0.length c0] rfl (by (try simp only [List.map_toArray, List.map_cons, List.map_nil]); first | done | rfl | (simp only [List.length_drop, List.length_take]; rfl)) ?_; (with_reducible refine (sennitref03_Ints.calls k _ _ l0 t381 _ ?side1 ?side2 A6.out).mono ?_); (case side1 => repeat (first | exact (Kd.C_below HR0.out (by repeat (first | (with_reducible first | exact HB.out | apply below_alloc | apply pw_below_drewN | apply below_drew1) | exact HB.out))) | (with_reducible refine Kd.C_alloc ?_ _) | (with_reducible refine Kd.C_drewN ?_ _) | (with_reducible refine Kd.C_drew ?_))); (case side2 => exact HC0.out); rintro e w16 ⟨v382, rfl, ho0, hb⟩; refine ⟨_, rfl, ?_⟩; have n0_ := Aside0.mk (Kd.V_elder' (by (with_reducible repeat (first | apply Kd.V_alloc | apply Kd.V_drewN | apply Kd.V_drew)); exact HO1.out) (Kd.R_base ho0) hb); have n1_ := Aside0.mk (Kd.N_elder' (by (with_reducible repeat (first | apply Kd.N_alloc | apply Kd.N_drewN | apply Kd.N_drew)); exact HO379.out) (Kd.R_base ho0) hb); have n2_ := Aside0.mk (Kd.R_lower (Kd.R_newM (M := fun k_ => (w.heap.size ≤ k_)) ho0 (below_size (by repeat (first | (with_reducible first | exact HB.out | apply below_alloc | apply pw_below_drewN | apply below_drew1) | exact HB.out))) (fun k_ h_ => h_)) (below_size (by repeat (first | (with_reducible first | exact HB.out | apply below_alloc | apply pw_below_drewN | apply below_drew1) | exact HB.out)))); have n3_ := Aside0.mk (below_step (by repeat (first | (with_reducible first | exact HB.out | apply below_alloc | apply pw_below_drewN | apply below_drew1) | exact HB.out)) hb); clear HO1; clear HO379; clear HB; have HO1 := n0_; have HO379 := n1_; have HO383 := n2_; have HB := n3_; clear n0_ n1_ n2_ n3_; (try clear hb); (try clear hb2); (try clear hk); (try clear hi); (try clear ho0)) | ((with_reducible refine gate_callee (f := 17) rfl ?_); refine goesL_ (some 26) rfl rfl Try.func17 (by kernel_rfl) rfl #[.slice Ao15 y377.length co15] rfl (by (try simp only [List.map_toArray, List.map_cons, List.map_nil]); first | done | rfl | (simp only [List.length_drop, List.length_take]; rfl)) ?_; (with_reducible refine (sennitref05_Lists.calls k _ _ y377 t384 _ ?side1 ?side2 A7.out).mono ?_); (case side1 => repeat (first | exact (Kd.N_reads' HO379.out).2.2 | (with_reducible refine Kd.C_alloc ?_ _) | (with_reducible refine Kd.C_drewN ?_ _) | (with_reducible refine Kd.C_drew ?_))); (case side2 => exact (Kd.N_reads' HO379.out).2.1); rintro e w17 ⟨v385, rfl, ho0, hb⟩; refine ⟨_, rfl, ?_⟩; have n0_ := Aside0.mk (Kd.V_elder' (by (with_reducible repeat (first | apply Kd.V_alloc | apply Kd.V_drewN | apply Kd.V_drew)); exact HO1.out) (Kd.S_base ho0) hb); have n1_ := Aside0.mk (Kd.N_elder' (by (with_reducible repeat (first | apply Kd.N_alloc | apply Kd.N_drewN | apply Kd.N_drew)); exact HO379.out) (Kd.S_base ho0) hb); have n2_ := Aside0.mk (Kd.R_below (by (with_reducible repeat (first | apply Kd.R_alloc | apply Kd.R_drewN | apply Kd.R_drew)); exact HO383.out) hb); have n3_ := Aside0.mk (Kd.N_lower (Kd.N_mono (ok' := fun k_ => (P1_ k_ ∨ w.heap.size ≤ k_) ∧ some k_ ≠ (.slice Ao15 y377.length co15 : Value).ownBlock ∧ some k_ ≠ (v382 : Value).ownBlock) (Kd.S_N (Kd.S_bound ho0)) (fun k_ hk_ => ⟨(.inr (Nat.le_trans (below_size (by repeat (first | (with_reducible first | exact HB.out | apply below_alloc | apply pw_below_drewN | apply below_drew1) | exact HB.out))) hk_.2.1)), (Kd.fresh' (Kd.N_lt (by (with_reducible repeat (first | apply Kd.N_alloc | apply Kd.N_drewN | apply Kd.N_drew)); exact HO379.out)) k_ hk_.2.1), (Kd.fresh' (Kd.R_lt (by (with_reducible repeat (first | apply Kd.R_alloc | apply Kd.R_drewN | apply Kd.R_drew)); exact HO383.out)) k_ hk_.2.1)⟩)) (below_size (by repeat (first | (with_reducible first | exact HB.out | apply below_alloc | apply pw_below_drewN | apply below_drew1) | exact HB.out)))); have n4_ := Aside0.mk (below_step (by repeat (first | (with_reducible first | exact HB.out | apply below_alloc | apply pw_below_drewN | apply below_drew1) | exact HB.out)) hb); clear HO1; clear HO379; clear HO383; clear HB; have HO1 := n0_; have HO379 := n1_; have HO383 := n2_; have HO386 := n3_; have HB := n4_; clear n0_ n1_ n2_ n3_ n4_; (try clear hb); (try clear hb2); (try clear hk); (try clear hi); (try clear ho0); obtain ⟨Ao18, co18, eo18⟩ := Kd.R_slice HO383.out; subst eo18; obtain ⟨Ao19, co19, eo19⟩ := Kd.N_slice HO386.out; subst eo19) | ((with_reducible refine gate_callee (f := 16) rfl ?_); refine goesL_ (some 27) rfl rfl Try.func16 (by kernel_rfl) rfl #[.slice Ao18 t381.length co18, .slice Ao19 t384.length co19] rfl (by (try simp only [List.map_toArray, List.map_cons, List.map_nil]); first | done | rfl | (simp only [List.length_drop, List.length_take]; rfl)) ?_; (with_reducible refine (sennitref05_Matches.calls k _ _ t381 _ _ t384 t387 t388 _ ?side1 ?side2 ?side3 ?side4 A8.out).mono ?_); (case side1 => repeat (first | exact (Kd.R_reads' HO383.out).2.2 | (with_reducible refine Kd.C_alloc ?_ _) | (with_reducible refine Kd.C_drewN ?_ _) | (with_reducible refine Kd.C_drew ?_))); (case side2 => exact (Kd.R_reads' HO383.out).2.1); (case side3 => repeat (first | exact (Kd.N_reads' HO386.out).2.2 | (with_reducible refine Kd.C_alloc ?_ _) | (with_reducible refine Kd.C_drewN ?_ _) | (with_reducible refine Kd.C_drew ?_))); (case side4 => exact (Kd.N_reads' HO386.out).2.1); rintro e w20 ⟨v389, v391, rfl, ho0, ho1, hb⟩; refine ⟨_, rfl, ?_⟩; have n0_ := Aside0.mk (Kd.V_mono (Kd.V_told (Kd.V_told (Kd.V_old (by (with_reducible repeat (first | apply Kd.V_alloc | apply Kd.V_drewN | apply Kd.V_drew)); exact HO1.out) hb) (Kd.R_base ho0)) (by first | exact Kd.S_base ho1 | exact Kd.N_base ho1)) (fun _ h_ => h_.1)); have n1_ := Aside0.mk (Kd.N_mono (Kd.N_told (Kd.N_told (Kd.N_old (by (with_reducible repeat (first | apply Kd.N_alloc | apply Kd.N_drewN | apply Kd.N_drew)); exact HO379.out) hb) (Kd.R_base ho0)) (by first | exact Kd.S_base ho1 | exact Kd.N_base ho1)) (fun _ h_ => h_.1)); have n2_ := Aside0.mk (Kd.R_elder' (by (with_reducible repeat (first | apply Kd.R_alloc | apply Kd.R_drewN | apply Kd.R_drew)); exact HO383.out) (Kd.R_base ho0) hb); have n3_ := Aside0.mk (Kd.N_mono (Kd.N_told (Kd.N_told (Kd.N_old (by (with_reducible repeat (first | apply Kd.N_alloc | apply Kd.N_drewN | apply Kd.N_drew)); exact HO386.out) hb) (Kd.R_base ho0)) (by first | exact Kd.S_base ho1 | exact Kd.N_base ho1)) (fun _ h_ => h_.1)); have n4_ := Aside0.mk (Kd.R_lower (Kd.R_new' (Kd.R_newM (M := fun k_ => (w.heap.size ≤ k_)) ho0 (below_size (by repeat (first | (with_reducible first | exact HB.out | apply below_alloc | apply pw_below_drewN | apply below_drew1) | exact HB.out))) (fun k_ h_ => h_)) (Kd.R_lt (by (with_reducible repeat (first | apply Kd.R_alloc | apply Kd.R_drewN | apply Kd.R_drew)); exact HO383.out))) (below_size (by repeat (first | (with_reducible first | exact HB.out | apply below_alloc | apply pw_below_drewN | apply below_drew1) | exact HB.out)))); have n5_ := Aside0.mk (Kd.N_lower (Kd.N_mono (ok' := fun k_ => (P1_ k_ ∨ w.heap.size ≤ k_) ∧ some k_ ≠ (v389 : Value).ownBlock ∧ some k_ ≠ (.slice Ao15 y377.length co15 : Value).ownBlock ∧ some k_ ≠ (.slice Ao18 t381.length co18 : Value).ownBlock ∧ some k_ ≠ (.slice Ao19 t384.length co19 : Value).ownBlock) (Kd.S_N (Kd.S_bound ho1)) (fun k_ hk_ => ⟨(.inr (Nat.le_trans (below_size (by repeat (first | (with_reducible first | exact HB.out | apply below_alloc | apply pw_below_drewN | apply below_drew1) | exact HB.out))) hk_.2.1)), hk_.1, (Kd.fresh' (Kd.N_lt (by (with_reducible repeat (first | apply Kd.N_alloc | apply Kd.N_drewN | apply Kd.N_drew)); exact HO379.out)) k_ hk_.2.1), (Kd.fresh' (Kd.R_lt (by (with_reducible repeat (first | apply Kd.R_alloc | apply Kd.R_drewN | apply Kd.R_drew)); exact HO383.out)) k_ hk_.2.1), (Kd.fresh' (Kd.N_lt (by (with_reducible repeat (first | apply Kd.N_alloc | apply Kd.N_drewN | apply Kd.N_drew)); exact HO386.out)) k_ hk_.2.1)⟩)) (below_size (by repeat (first | (with_reducible first | exact HB.out | apply below_alloc | apply pw_below_drewN | apply below_drew1) | exact HB.out)))); have n6_ := Aside0.mk (below_step (by repeat (first | (with_reducible first | exact HB.out | apply below_alloc | apply pw_below_drewN | apply below_drew1) | exact HB.out)) hb); clear HO1; clear HO379; clear HO383; clear HO386; clear HB; have HO1 := n0_; have HO379 := n1_; have HO383 := n2_; have HO386 := n3_; have HO390 := n4_; have HO392 := n5_; have HB := n6_; clear n0_ n1_ n2_ n3_ n4_ n5_ n6_; (try clear hb); (try clear hb2); (try clear hk); (try clear hi); (try clear ho0); (try clear ho1); obtain ⟨Ao21, co21, eo21⟩ := Kd.N_slice HO392.out; subst eo21; have p393 : 0 ≤ (0 : Int) := (by omega); have q393 : 0 < (t388.length : Int) := of_decide_eq_true (by first | (with_reducible assumption) | assumption); obtain ⟨ad393, A393_0, c393_0, e393, hx393_0, hl393_0, hi393_0⟩ := at_L1 (Kd.N_reads' HO392.out).2.2 0 p393 q393; cases e393; obtain ⟨ce393, hce393, hMe393, hcc393⟩ := Kd.N_get HO392.out [] 0 p393 (by first | exact q393 | exact of_decide_eq_true (by first | (with_reducible assumption) | assumption) | (have e_ := (Kd.N_reads' HO392.out).1; omega)); obtain ⟨ua393_0, uc393_0, rfl, ul393_0, ge393_0⟩ := Kd.FK_slice_open hMe393; have hv393_0 := hcc393 0 _ rfl; rw [Nat.add_zero, show ((Kd.slice 3 (Kd.int .i64))).sz = 1 from rfl, Nat.mul_one] at hv393_0; replace hv393_0 := Option.some.inj (hv393_0.symm.trans hx393_0); injection hv393_0 with hva_ hvn_ hvc_; rw [hva_] at ge393_0; rw [hvc_] at ul393_0; have HL393_0 := Aside0.mk (show Kd.V (Kd.int .i64) 3 _ w.heap.size _ _ (rd_L1 t388 0) from Kd.V_mk ul393_0 ge393_0); clear hva_ hvn_ hvc_ ge393_0 ul393_0; clear hcc393 hce393; have qi393 : (0 < t388.length) = True := eq_true (by omega); (try rw [show ((0 : Int)).toNat = 0 from rfl] at hx393_0); (try rw [Addr.add_zero'] at hx393_0); have HR393_0 := Aside0.mk hi393_0; have HC393_0 := Aside0.mk hl393_0; clear hi393_0 hl393_0; replace p393 := eq_true p393; replace q393 := eq_true q393) | ((with_reducible refine gate_callee (f := 23) rfl ?_); refine goesL_ (some 36) rfl rfl Try.func23 (by kernel_rfl) rfl #[.slice A393_0 (rd_L1 t388 0).length c393_0, .int .i64 (l1.length : Int)] rfl (by (try simp only [List.map_toArray, List.map_cons, List.map_nil]); first | done | rfl | (simp only [List.length_drop, List.length_take]; rfl)) ?_; (with_reducible refine (edit_Changes.calls k _ _ (rd_L1 t388 0) (l1.length : Int) t394 t395 _ ?side1 ?side2 A10.out).mono ?_); (case side1 => repeat (first | exact (by repeat (first | (with_reducible exact HR393_0.out) | (with_reducible refine Kd.C_alloc ?_ _) | (with_reducible refine Kd.C_drewN ?_ _) | (with_reducible refine Kd.C_drew ?_) | exact HR393_0.out)) | (with_reducible refine Kd.C_alloc ?_ _) | (with_reducible refine Kd.C_drewN ?_ _) | (with_reducible refine Kd.C_drew ?_))); (case side2 => exact HC393_0.out); rintro e w22 ⟨v396, rfl, ho0, hb⟩; refine ⟨_, rfl, ?_⟩; have n0_ := Aside0.mk (Kd.V_elder' (by (with_reducible repeat (first | apply Kd.V_alloc | apply Kd.V_drewN | apply Kd.V_drew)); exact HO1.out) (Kd.R_base ho0) hb); have n1_ := Aside0.mk (Kd.N_elder' (by (with_reducible repeat (first | apply Kd.N_alloc | apply Kd.N_drewN | apply Kd.N_drew)); exact HO379.out) (Kd.R_base ho0) hb); have n2_ := Aside0.mk (Kd.R_below (by (with_reducible repeat (first | apply Kd.R_alloc | apply Kd.R_drewN | apply Kd.R_drew)); exact HO383.out) hb); have n3_ := Aside0.mk (Kd.N_elder' (by (with_reducible repeat (first | apply Kd.N_alloc | apply Kd.N_drewN | apply Kd.N_drew)); exact HO386.out) (Kd.R_base ho0) hb); have n4_ := Aside0.mk (Kd.R_below (by (with_reducible repeat (first | apply Kd.R_alloc | apply Kd.R_drewN | apply Kd.R_drew)); exact HO390.out) hb); have n5_ := Aside0.mk (Kd.N_elder' (by (with_reducible repeat (first | apply Kd.N_alloc | apply Kd.N_drewN | apply Kd.N_drew)); exact HO392.out) (Kd.R_base ho0) hb); have n6_ := Aside0.mk (Kd.V_elder' (by (with_reducible repeat (first | apply Kd.V_alloc | apply Kd.V_drewN | apply Kd.V_drew)); exact HL393_0.out) (Kd.R_base ho0) hb); have n7_ := Aside0.mk (Kd.R_lower (Kd.R_newM (M := fun k_ => (w.heap.size ≤ k_)) ho0 (below_size (by repeat (first | (with_reducible first | exact HB.out | apply below_alloc | apply pw_below_drewN | apply below_drew1) | exact HB.out))) (fun k_ h_ => h_)) (below_size (by repeat (first | (with_reducible first | exact HB.out | apply below_alloc | apply pw_below_drewN | apply below_drew1) | exact HB.out)))); have n8_ := Aside0.mk (Kd.C_below (by repeat (first | (with_reducible exact HR393_0.out) | (with_reducible refine Kd.C_alloc ?_ _) | (with_reducible refine Kd.C_drewN ?_ _) | (with_reducible refine Kd.C_drew ?_) | exact HR393_0.out)) hb); have n9_ := Aside0.mk (below_step (by repeat (first | (with_reducible first | exact HB.out | apply below_alloc | apply pw_below_drewN | apply below_drew1) | exact HB.out)) hb); clear HO1; clear HO379; clear HO383; clear HO386; clear HO390; clear HO392; clear HL393_0; clear HR393_0; clear HB; have HO1 := n0_; have HO379 := n1_; have HO383 := n2_; have HO386 := n3_; have HO390 := n4_; have HO392 := n5_; have HL393_0 := n6_; have HO397 := n7_; have HR393_0 := n8_; have HB := n9_; clear n0_ n1_ n2_ n3_ n4_ n5_ n6_ n7_ n8_ n9_; (try clear hb); (try clear hb2); (try clear hk); (try clear hi); (try clear ho0)) | ((with_reducible refine gate_callee (f := 19) rfl ?_); refine goesL_ (some 41) rfl rfl Try.func19 (by kernel_rfl) rfl #[.slice A0 l0.length c0, .slice Ao15 y377.length co15] rfl (by (try simp only [List.map_toArray, List.map_cons, List.map_nil]); first | done | rfl | (simp only [List.length_drop, List.length_take]; rfl)) ?_; (with_reducible refine (sennitlaw05_cut.calls k _ _ l0 _ _ y377 t398 _ ?side1 ?side2 ?side3 ?side4 A11.out).mono ?_); (case side1 => repeat (first | exact (Kd.C_below HR0.out HB.out) | (with_reducible refine Kd.C_alloc ?_ _) | (with_reducible refine Kd.C_drewN ?_ _) | (with_reducible refine Kd.C_drew ?_))); (case side2 => exact HC0.out); (case side3 => repeat (first | exact (Kd.N_reads' HO379.out).2.2 | (with_reducible refine Kd.C_alloc ?_ _) | (with_reducible refine Kd.C_drewN ?_ _) | (with_reducible refine Kd.C_drew ?_))); (case side4 => exact (Kd.N_reads' HO379.out).2.1); rintro e w23 ⟨v399, rfl, ho0, hb⟩; refine ⟨_, rfl, ?_⟩; have n0_ := Aside0.mk (Kd.V_elder' (by (with_reducible repeat (first | apply Kd.V_alloc | apply Kd.V_drewN | apply Kd.V_drew)); exact HO1.out) (Kd.S_base ho0) hb); have n1_ := Aside0.mk (Kd.N_elder' (by (with_reducible repeat (first | apply Kd.N_alloc | apply Kd.N_drewN | apply Kd.N_drew)); exact HO379.out) (Kd.S_base ho0) hb); have n2_ := Aside0.mk (Kd.R_below (by (with_reducible repeat (first | apply Kd.R_alloc | apply Kd.R_drewN | apply Kd.R_drew)); exact HO383.out) hb); have n3_ := Aside0.mk (Kd.N_elder' (by (with_reducible repeat (first | apply Kd.N_alloc | apply Kd.N_drewN | apply Kd.N_drew)); exact HO386.out) (Kd.S_base ho0) hb); have n4_ := Aside0.mk (Kd.R_below (by (with_reducible repeat (first | apply Kd.R_alloc | apply Kd.R_drewN | apply Kd.R_drew)); exact HO390.out) hb); have n5_ := Aside0.mk (Kd.N_elder' (by (with_reducible repeat (first | apply Kd.N_alloc | apply Kd.N_drewN | apply Kd.N_drew)); exact HO392.out) (Kd.S_base ho0) hb); have n6_ := Aside0.mk (Kd.V_elder' (by (with_reducible repeat (first | apply Kd.V_alloc | apply Kd.V_drewN | apply Kd.V_drew)); exact HL393_0.out) (Kd.S_base ho0) hb); have n7_ := Aside0.mk (Kd.R_below (by (with_reducible repeat (first | apply Kd.R_alloc | apply Kd.R_drewN | apply Kd.R_drew)); exact HO397.out) hb); have n8_ := Aside0.mk (Kd.N_lower (Kd.N_mono (ok' := fun k_ => (P1_ k_ ∨ w.heap.size ≤ k_) ∧ some k_ ≠ (.slice Ao15 y377.length co15 : Value).ownBlock ∧ some k_ ≠ (.slice Ao18 t381.length co18 : Value).ownBlock ∧ some k_ ≠ (.slice Ao19 t384.length co19 : Value).ownBlock ∧ some k_ ≠ (v389 : Value).ownBlock ∧ some k_ ≠ (.slice (some ad393) t388.length co21 : Value).ownBlock ∧ some k_ ≠ (v396 : Value).ownBlock) (Kd.S_N (Kd.S_bound ho0)) (fun k_ hk_ => ⟨(.inr (Nat.le_trans (below_size (by repeat (first | (with_reducible first | exact HB.out | apply below_alloc | apply pw_below_drewN | apply below_drew1) | exact HB.out))) hk_.2.1)), (Kd.fresh' (Kd.N_lt (by (with_reducible repeat (first | apply Kd.N_alloc | apply Kd.N_drewN | apply Kd.N_drew)); exact HO379.out)) k_ hk_.2.1), (Kd.fresh' (Kd.R_lt (by (with_reducible repeat (first | apply Kd.R_alloc | apply Kd.R_drewN | apply Kd.R_drew)); exact HO383.out)) k_ hk_.2.1), (Kd.fresh' (Kd.N_lt (by (with_reducible repeat (first | apply Kd.N_alloc | apply Kd.N_drewN | apply Kd.N_drew)); exact HO386.out)) k_ hk_.2.1), (Kd.fresh' (Kd.R_lt (by (with_reducible repeat (first | apply Kd.R_alloc | apply Kd.R_drewN | apply Kd.R_drew)); exact HO390.out)) k_ hk_.2.1), (Kd.fresh' (Kd.N_lt (by (with_reducible repeat (first | apply Kd.N_alloc | apply Kd.N_drewN | apply Kd.N_drew)); exact HO392.out)) k_ hk_.2.1), (Kd.fresh' (Kd.R_lt (by (with_reducible repeat (first | apply Kd.R_alloc | apply Kd.R_drewN | apply Kd.R_drew)); exact HO397.out)) k_ hk_.2.1)⟩)) (below_size (by repeat (first | (with_reducible first | exact HB.out | apply below_alloc | apply pw_below_drewN | apply below_drew1) | exact HB.out)))); have n9_ := Aside0.mk (Kd.C_below (by repeat (first | (with_reducible exact HR393_0.out) | (with_reducible refine Kd.C_alloc ?_ _) | (with_reducible refine Kd.C_drewN ?_ _) | (with_reducible refine Kd.C_drew ?_) | exact HR393_0.out)) hb); have n10_ := Aside0.mk (below_step (by repeat (first | (with_reducible first | exact HB.out | apply below_alloc | apply pw_below_drewN | apply below_drew1) | exact HB.out)) hb); clear HO1; clear HO379; clear HO383; clear HO386; clear HO390; clear HO392; clear HL393_0; clear HO397; clear HR393_0; clear HB; have HO1 := n0_; have HO379 := n1_; have HO383 := n2_; have HO386 := n3_; have HO390 := n4_; have HO392 := n5_; have HL393_0 := n6_; have HO397 := n7_; have HO400 := n8_; have HR393_0 := n9_; have HB := n10_; clear n0_ n1_ n2_ n3_ n4_ n5_ n6_ n7_ n8_ n9_ n10_; (try clear hb); (try clear hb2); (try clear hk); (try clear hi); (try clear ho0)))
      go_loopg [12, 13] k (fun kq v12 v13 w' => ∃ (x12_1 : List (S60)) (x13_1 : Int), v13 = .int .i64 x13_1 ∧ Aside0 (sennitlaw05_AlignOne.l0 kq t376 t394 t398 x12_1 x13_1 = some r) ∧ Aside0 (kq ≤ k) ∧ Aside0 (Kd.R k60 60 w' w.heap.size (fun k_ => (w.heap.size ≤ k_) ∧ some k_ ≠ (v12 : Value).ownBlock) v396 t394) ∧ Aside0 (Kd.N k39 39 w' w.heap.size (fun k_ => (P1_ k_ ∨ w.heap.size ≤ k_) ∧ some k_ ≠ (v396 : Value).ownBlock ∧ some k_ ≠ (v12 : Value).ownBlock) v399 t398) ∧ Aside0 (Kd.R k60 60 w' w.heap.size (fun k_ => (w.heap.size ≤ k_) ∧ some k_ ≠ (v396 : Value).ownBlock) v12 x12_1) ∧ Aside0 (Below w.heap.size w w'))
      case atStart => exact ⟨(([] : List (S60))), (0), (by first | rfl | (simp; done) | (simp [*]; done)), H', ⟨Nat.le_refl _⟩, ⟨by (with_reducible repeat (first | apply Kd.R_alloc | apply Kd.R_drewN | apply Kd.R_drew)); exact Kd.R_mono HO397.out (fun _ hk => ⟨hk.1, (by simp [Value.ownBlock])⟩)⟩, ⟨by (with_reducible repeat (first | apply Kd.N_alloc | apply Kd.N_drewN | apply Kd.N_drew)); exact Kd.N_mono HO400.out (fun _ hk => ⟨hk.1, ⟨hk.2.2.2.2.2.2, (by simp [Value.ownBlock])⟩⟩)⟩, ⟨by first | exact Kd.R_nil _ _ _ _ _ | exact Kd.N_nil _ _ _ _ _ | exact Kd.V_nil _ _ _ _ _ | exact Kd.Q_nil _ _ _ _ _ | exact Kd.S_nil _ _ _ _ _⟩, ⟨by repeat (first | (with_reducible first | exact HB.out | apply below_alloc | apply pw_below_drewN | apply below_drew1) | exact HB.out)⟩⟩
      case round =>
        clear H'
        try clear c1
        try clear c2
        try clear p2
        try clear c3
        try clear p3
        try clear q3
        try clear hx3
        try clear qi3
        try clear c5
        try clear c9
        try clear c9b0
        try clear c9b1
        try clear c13
        try clear c14
        try clear c15
        try clear c16
        try clear c17
        try clear c19
        try clear c20
        try clear c23
        try clear hx393_0
        try clear p393
        try clear q393
        obtain ⟨x12_1, x13_1, rfl, HA, HK1, HO_9, HO_11, HO_12, HB⟩ := hrel
        cases gk with
        | zero => exact absurd HA.out (by simp [sennitlaw05_AlignOne.l0])
        | succ k1 =>
          have H := HA.out
          clear HA
          simp only [sennitlaw05_AlignOne.l0] at H
          by_cases c24 : x13_1 < (t398.length : Int)
          · rw [if_pos c24] at H
            have c24b0 : decide (x13_1 < (t398.length : Int)) = true := decide_eq_true c24
            clear c24
            by_cases c25 : 0 ≤ x13_1
            · rw [if_pos c25] at H
              have c25b0 : decide (0 ≤ x13_1) = true := decide_eq_true c25
              clear c25
              obtain ⟨bq26, hbq26⟩ : ∃ b_ : Bool, b_ = ((rd_T39 t398 x13_1).f0) := ⟨_, rfl⟩
              replace H : (if (bq26 = true) then (sennitlaw05_AlignOne.l0 k1 t376 t394 t398 x12_1 (wrap64 (x13_1 + 1))) else (if (((rd_T39 t398 x13_1).f2).length : Int) = 1 then (if 0 < (((rd_T39 t398 x13_1).f2).length : Int) then (if x12_1.length < 4398046511104 then (sennitlaw05_AlignOne.l0 k1 t376 t394 t398 (x12_1 ++ [(⟨(⟨(rd_T39 t398 x13_1).f1.f0, (rd_T39 t398 x13_1).f1.f1⟩ : S36), (⟨(rd_T36 ((rd_T39 t398 x13_1).f2) 0).f0, (rd_T36 ((rd_T39 t398 x13_1).f2) 0).f1⟩ : S36)⟩ : S60)]) (wrap64 (x13_1 + 1))) else (none)) else (none)) else (sennitlaw05_AlignOne.l0 k1 t376 t394 t398 x12_1 (wrap64 (x13_1 + 1))))) = some r := by rw [← hbq26] at H; exact H
              have Nbq26 := Aside0.mk hbq26
              clear hbq26
              by_cases c27 : (bq26 = true)
              · subst c27
                have H1 : (sennitlaw05_AlignOne.l0 k1 t376 t394 t398 x12_1 (wrap64 (x13_1 + 1))) = some r := by rw [if_pos rfl] at H; exact H
                clear H
                have H := H1
                clear H1
                have H' := Aside0.mk H
                clear H
                obtain ⟨Ao28, co28, eo28⟩ := Kd.N_slice HO_11.out
                subst eo28
                have p401 : 0 ≤ (x13_1 : Int) := of_decide_eq_true (by first | (with_reducible assumption) | assumption)
                have q401 : x13_1 < (t398.length : Int) := of_decide_eq_true (by first | (with_reducible assumption) | assumption)
                obtain ⟨ad401, A401_3, c401_3, e401, hx401_0, hx401_1, hx401_2, hx401_3, hl401_3, hi401_3⟩ := at_T39 (Kd.N_reads' HO_11.out).2.2 x13_1 p401 q401
                (try rw [← Nbq26.out] at hx401_0)
                cases e401
                obtain ⟨ce401, hce401, hMe401, hcc401⟩ := Kd.N_get HO_11.out z39 x13_1 p401 (by first | exact q401 | exact of_decide_eq_true (by first | (with_reducible assumption) | assumption) | (have e_ := (Kd.N_reads' HO_11.out).1; omega))
                obtain ⟨ua401_3, uc401_3, rfl, ul401_3, ge401_3⟩ := k39_openF hMe401
                have hv401_3 := hcc401 3 _ rfl
                rw [add_field _ _ 3 (by omega)] at hv401_3
                replace hv401_3 := Option.some.inj (hv401_3.symm.trans hx401_3)
                injection hv401_3 with hva_ hvn_ hvc_
                rw [hva_] at ge401_3
                rw [hvc_] at ul401_3
                have HL401_3 := Aside0.mk (show Kd.V k36 36 _ w.heap.size _ _ ((rd_T39 t398 x13_1).f2) from Kd.V_mk ul401_3 ge401_3)
                clear hva_ hvn_ hvc_ ge401_3 ul401_3
                clear hcc401 hce401
                have HR401_3 := Aside0.mk hi401_3
                have HC401_3 := Aside0.mk hl401_3
                clear hi401_3 hl401_3
                replace p401 := eq_true p401
                replace q401 := eq_true q401
                go_wp2
                go_roundg k1
                case measure => have := HK1.out; omega
                case rel => exact ⟨(x12_1), (wrap64 (x13_1 + 1)), (by first | rfl | (simp; done) | (simp [*]; done)), H', ⟨by have := HK1.out; omega⟩, ⟨by (with_reducible repeat (first | apply Kd.R_alloc | apply Kd.R_drewN | apply Kd.R_drew)); exact HO_9.out⟩, ⟨by (with_reducible repeat (first | apply Kd.N_alloc | apply Kd.N_drewN | apply Kd.N_drew)); exact HO_11.out⟩, ⟨by (with_reducible repeat (first | apply Kd.R_alloc | apply Kd.R_drewN | apply Kd.R_drew)); exact HO_12.out⟩, ⟨by repeat (first | (with_reducible first | exact HB.out | apply below_alloc | apply pw_below_drewN | apply below_drew1) | exact HB.out)⟩⟩
              · replace c27 := Bool.eq_false_iff.mpr c27
                subst c27
                have H1 : (if (((rd_T39 t398 x13_1).f2).length : Int) = 1 then (if 0 < (((rd_T39 t398 x13_1).f2).length : Int) then (if x12_1.length < 4398046511104 then (sennitlaw05_AlignOne.l0 k1 t376 t394 t398 (x12_1 ++ [(⟨(⟨(rd_T39 t398 x13_1).f1.f0, (rd_T39 t398 x13_1).f1.f1⟩ : S36), (⟨(rd_T36 ((rd_T39 t398 x13_1).f2) 0).f0, (rd_T36 ((rd_T39 t398 x13_1).f2) 0).f1⟩ : S36)⟩ : S60)]) (wrap64 (x13_1 + 1))) else (none)) else (none)) else (sennitlaw05_AlignOne.l0 k1 t376 t394 t398 x12_1 (wrap64 (x13_1 + 1)))) = some r := by rw [if_neg (show ¬ (false = true) by decide)] at H; exact H
                clear H
                have H := H1
                clear H1
                by_cases c29 : (((rd_T39 t398 x13_1).f2).length : Int) = 1
                · rw [if_pos c29] at H
                  have c29b0 : ((((rd_T39 t398 x13_1).f2).length : Int) == 1) = true := beq_iff_eq.mpr c29
                  have c29b1 : ((((rd_T39 t398 x13_1).f2).length : Int) != 1) = false := bne_eq_false_iff_eq.mpr c29
                  clear c29
                  by_cases c30 : 0 < (((rd_T39 t398 x13_1).f2).length : Int)
                  · rw [if_pos c30] at H
                    have c30b0 : decide (0 < (((rd_T39 t398 x13_1).f2).length : Int)) = true := decide_eq_true c30
                    have c30b1 : decide (0 < ((rd_T39 t398 x13_1).f2).length) = true := decide_eq_true (by omega)
                    clear c30
                    by_cases c31 : x12_1.length < 4398046511104
                    · rw [if_pos c31] at H
                      have LMc31 := Aside0.mk c31
                      clear c31
                      obtain ⟨y406, hy406⟩ : ∃ y_ : List (S60), y_ = (x12_1 ++ [(⟨(⟨(rd_T39 t398 x13_1).f1.f0, (rd_T39 t398 x13_1).f1.f1⟩ : S36), (⟨(rd_T36 ((rd_T39 t398 x13_1).f2) 0).f0, (rd_T36 ((rd_T39 t398 x13_1).f2) 0).f1⟩ : S36)⟩ : S60)]) := ⟨_, rfl⟩
                      replace H : (sennitlaw05_AlignOne.l0 k1 t376 t394 t398 y406 (wrap64 (x13_1 + 1))) = some r := by first | (rw [hy406]; with_reducible exact H) | (have H2_ := (Option.bind_some _ _).symm.trans H; rw [hy406]; with_reducible exact H2_) | (have H2_ := (Option.bind_some _ _).symm.trans H; with_reducible exact H2_) | with_reducible exact H | (rw [hy406]; exact H) | exact H
                      have Ny406 := Aside0.mk hy406
                      clear hy406
                      have H' := Aside0.mk H
                      clear H
                      obtain ⟨Ao32, co32, eo32⟩ := Kd.N_slice HO_11.out
                      subst eo32
                      have p401 : 0 ≤ (x13_1 : Int) := of_decide_eq_true (by first | (with_reducible assumption) | assumption)
                      have q401 : x13_1 < (t398.length : Int) := of_decide_eq_true (by first | (with_reducible assumption) | assumption)
                      obtain ⟨ad401, A401_3, c401_3, e401, hx401_0, hx401_1, hx401_2, hx401_3, hl401_3, hi401_3⟩ := at_T39 (Kd.N_reads' HO_11.out).2.2 x13_1 p401 q401
                      (try rw [← Nbq26.out] at hx401_0)
                      cases e401
                      obtain ⟨ce401, hce401, hMe401, hcc401⟩ := Kd.N_get HO_11.out z39 x13_1 p401 (by first | exact q401 | exact of_decide_eq_true (by first | (with_reducible assumption) | assumption) | (have e_ := (Kd.N_reads' HO_11.out).1; omega))
                      obtain ⟨ua401_3, uc401_3, rfl, ul401_3, ge401_3⟩ := k39_openF hMe401
                      have hv401_3 := hcc401 3 _ rfl
                      rw [add_field _ _ 3 (by omega)] at hv401_3
                      replace hv401_3 := Option.some.inj (hv401_3.symm.trans hx401_3)
                      injection hv401_3 with hva_ hvn_ hvc_
                      rw [hva_] at ge401_3
                      rw [hvc_] at ul401_3
                      have HL401_3 := Aside0.mk (show Kd.V k36 36 _ w.heap.size _ _ ((rd_T39 t398 x13_1).f2) from Kd.V_mk ul401_3 ge401_3)
                      clear hva_ hvn_ hvc_ ge401_3 ul401_3
                      clear hcc401 hce401
                      have HR401_3 := Aside0.mk hi401_3
                      have HC401_3 := Aside0.mk hl401_3
                      clear hi401_3 hl401_3
                      replace p401 := eq_true p401
                      replace q401 := eq_true q401
                      have p402 : 0 ≤ (x13_1 : Int) := of_decide_eq_true (by first | (with_reducible assumption) | assumption)
                      have q402 : x13_1 < (t398.length : Int) := of_decide_eq_true (by first | (with_reducible assumption) | assumption)
                      obtain ⟨ad402, A402_3, c402_3, e402, hx402_0, hx402_1, hx402_2, hx402_3, hl402_3, hi402_3⟩ := at_T39 (Kd.N_reads' HO_11.out).2.2 x13_1 p402 q402
                      (try rw [← Nbq26.out] at hx402_0)
                      obtain rfl : ad401 = ad402 := (by injection e402)
                      obtain ⟨ce402, hce402, hMe402, hcc402⟩ := Kd.N_get HO_11.out z39 x13_1 p402 (by first | exact q402 | exact of_decide_eq_true (by first | (with_reducible assumption) | assumption) | (have e_ := (Kd.N_reads' HO_11.out).1; omega))
                      obtain ⟨ua402_3, uc402_3, rfl, ul402_3, ge402_3⟩ := k39_openF hMe402
                      have hv402_3 := hcc402 3 _ rfl
                      rw [add_field _ _ 3 (by omega)] at hv402_3
                      replace hv402_3 := Option.some.inj (hv402_3.symm.trans hx402_3)
                      injection hv402_3 with hva_ hvn_ hvc_
                      rw [hva_] at ge402_3
                      rw [hvc_] at ul402_3
                      have HL402_3 := Aside0.mk (show Kd.V k36 36 _ w.heap.size _ _ ((rd_T39 t398 x13_1).f2) from Kd.V_mk ul402_3 ge402_3)
                      clear hva_ hvn_ hvc_ ge402_3 ul402_3
                      clear hcc402 hce402
                      have HR402_3 := Aside0.mk hi402_3
                      have HC402_3 := Aside0.mk hl402_3
                      clear hi402_3 hl402_3
                      replace p402 := eq_true p402
                      replace q402 := eq_true q402
                      have ea_ := Option.some.inj (hx401_3.symm.trans hx402_3)
                      injection ea_ with ea_ en_ ec_
                      subst ea_
                      subst ec_
                      clear en_
                      try go_wp2
                      have n0_ := Aside0.mk (Kd.R_drew HO_9.out)
                      have n1_ := Aside0.mk (Kd.N_drew HO_11.out)
                      have n2_ := Aside0.mk (Kd.R_drew HO_12.out)
                      have n3_ := Aside0.mk (Kd.V_drew HL401_3.out)
                      have n4_ := Aside0.mk (Kd.V_drew HL402_3.out)
                      have n5_ := Aside0.mk (Kd.C_drew HR401_3.out)
                      have n6_ := Aside0.mk (Kd.C_drew HR402_3.out)
                      have n7_ := Aside0.mk (below_drew1 HB.out)
                      clear HO_9
                      clear HO_11
                      clear HO_12
                      clear HL401_3
                      clear HL402_3
                      clear HR401_3
                      clear HR402_3
                      clear HB
                      have HO_9 := n0_
                      have HO_11 := n1_
                      have HO_12 := n2_
                      have HL401_3 := n3_
                      have HL402_3 := n4_
                      have HR401_3 := n5_
                      have HR402_3 := n6_
                      have HB := n7_
                      clear n0_ n1_ n2_ n3_ n4_ n5_ n6_ n7_
                      have p403 : 0 ≤ (x13_1 : Int) := of_decide_eq_true (by first | (with_reducible assumption) | assumption)
                      have q403 : x13_1 < (t398.length : Int) := of_decide_eq_true (by first | (with_reducible assumption) | assumption)
                      obtain ⟨ad403, A403_3, c403_3, e403, hx403_0, hx403_1, hx403_2, hx403_3, hl403_3, hi403_3⟩ := at_T39 (Kd.N_reads' HO_11.out).2.2 x13_1 p403 q403
                      (try rw [← Nbq26.out] at hx403_0)
                      obtain rfl : ad401 = ad403 := (by injection e403)
                      obtain ⟨ce403, hce403, hMe403, hcc403⟩ := Kd.N_get HO_11.out z39 x13_1 p403 (by first | exact q403 | exact of_decide_eq_true (by first | (with_reducible assumption) | assumption) | (have e_ := (Kd.N_reads' HO_11.out).1; omega))
                      obtain ⟨ua403_3, uc403_3, rfl, ul403_3, ge403_3⟩ := k39_openF hMe403
                      have hv403_3 := hcc403 3 _ rfl
                      rw [add_field _ _ 3 (by omega)] at hv403_3
                      replace hv403_3 := Option.some.inj (hv403_3.symm.trans hx403_3)
                      injection hv403_3 with hva_ hvn_ hvc_
                      rw [hva_] at ge403_3
                      rw [hvc_] at ul403_3
                      have HL403_3 := Aside0.mk (show Kd.V k36 36 _ w.heap.size _ _ ((rd_T39 t398 x13_1).f2) from Kd.V_mk ul403_3 ge403_3)
                      clear hva_ hvn_ hvc_ ge403_3 ul403_3
                      clear hcc403 hce403
                      have HR403_3 := Aside0.mk hi403_3
                      have HC403_3 := Aside0.mk hl403_3
                      clear hi403_3 hl403_3
                      replace p403 := eq_true p403
                      replace q403 := eq_true q403
                      have p404 : 0 ≤ (x13_1 : Int) := of_decide_eq_true (by first | (with_reducible assumption) | assumption)
                      have q404 : x13_1 < (t398.length : Int) := of_decide_eq_true (by first | (with_reducible assumption) | assumption)
                      obtain ⟨ad404, A404_3, c404_3, e404, hx404_0, hx404_1, hx404_2, hx404_3, hl404_3, hi404_3⟩ := at_T39 (Kd.N_reads' HO_11.out).2.2 x13_1 p404 q404
                      (try rw [← Nbq26.out] at hx404_0)
                      obtain rfl : ad401 = ad404 := (by injection e404)
                      obtain ⟨ce404, hce404, hMe404, hcc404⟩ := Kd.N_get HO_11.out z39 x13_1 p404 (by first | exact q404 | exact of_decide_eq_true (by first | (with_reducible assumption) | assumption) | (have e_ := (Kd.N_reads' HO_11.out).1; omega))
                      obtain ⟨ua404_3, uc404_3, rfl, ul404_3, ge404_3⟩ := k39_openF hMe404
                      have hv404_3 := hcc404 3 _ rfl
                      rw [add_field _ _ 3 (by omega)] at hv404_3
                      replace hv404_3 := Option.some.inj (hv404_3.symm.trans hx404_3)
                      injection hv404_3 with hva_ hvn_ hvc_
                      rw [hva_] at ge404_3
                      rw [hvc_] at ul404_3
                      have HL404_3 := Aside0.mk (show Kd.V k36 36 _ w.heap.size _ _ ((rd_T39 t398 x13_1).f2) from Kd.V_mk ul404_3 ge404_3)
                      clear hva_ hvn_ hvc_ ge404_3 ul404_3
                      clear hcc404 hce404
                      have HR404_3 := Aside0.mk hi404_3
                      have HC404_3 := Aside0.mk hl404_3
                      clear hi404_3 hl404_3
                      replace p404 := eq_true p404
                      replace q404 := eq_true q404
                      have ea_ := Option.some.inj (hx403_3.symm.trans hx404_3)
                      injection ea_ with ea_ en_ ec_
                      subst ea_
                      subst ec_
                      clear en_
                      have p405 : 0 ≤ (0 : Int) := (by omega)
                      have q405 : 0 < (((rd_T39 t398 x13_1).f2).length : Int) := of_decide_eq_true (by first | (with_reducible assumption) | assumption)
                      obtain ⟨ad405, e405, hx405_0, hx405_1⟩ := at_T36 (by repeat (first | (with_reducible exact HR404_3.out) | (with_reducible refine Kd.C_alloc ?_ _) | (with_reducible refine Kd.C_drewN ?_ _) | (with_reducible refine Kd.C_drew ?_) | exact HR404_3.out)) 0 p405 q405
                      cases e405
                      have qi405 : (0 < ((rd_T39 t398 x13_1).f2).length) = True := eq_true (by omega)
                      (try rw [show ((0 : Int)).toNat = 0 from rfl] at hx405_0)
                      (try rw [show 0 * 2 = 0 from rfl] at hx405_0)
                      (try rw [Addr.add_zero'] at hx405_0)
                      (try rw [show ((0 : Int)).toNat = 0 from rfl] at hx405_1)
                      (try rw [show 0 * 2 = 0 from rfl] at hx405_1)
                      (try rw [Addr.add_zero'] at hx405_1)
                      replace p405 := eq_true p405
                      replace q405 := eq_true q405
                      refine start_ (n := 17) (S := fun w' => w'.cell? (ad401.add ((x13_1).toNat * 4)) = some (.bool (false)) ∧ w'.cell? ⟨(ad401.add ((x13_1).toNat * 4)).block, (ad401.add ((x13_1).toNat * 4)).off + 1, none⟩ = some (.int .i64 ((rd_T39 t398 x13_1).f1.f0)) ∧ w'.cell? ⟨(ad401.add ((x13_1).toNat * 4)).block, (ad401.add ((x13_1).toNat * 4)).off + 2, none⟩ = some (.int .i64 ((rd_T39 t398 x13_1).f1.f1)) ∧ w'.cell? ⟨(ad401.add ((x13_1).toNat * 4)).block, (ad401.add ((x13_1).toNat * 4)).off + 3, none⟩ = some (.slice (some ad405) ((rd_T39 t398 x13_1).f2).length c403_3) ∧ w'.cell? (ad401.add ((x13_1).toNat * 4)) = some (.bool (false)) ∧ w'.cell? ⟨(ad401.add ((x13_1).toNat * 4)).block, (ad401.add ((x13_1).toNat * 4)).off + 1, none⟩ = some (.int .i64 ((rd_T39 t398 x13_1).f1.f0)) ∧ w'.cell? ⟨(ad401.add ((x13_1).toNat * 4)).block, (ad401.add ((x13_1).toNat * 4)).off + 2, none⟩ = some (.int .i64 ((rd_T39 t398 x13_1).f1.f1)) ∧ w'.cell? ⟨(ad401.add ((x13_1).toNat * 4)).block, (ad401.add ((x13_1).toNat * 4)).off + 3, none⟩ = some (.slice (some ad405) ((rd_T39 t398 x13_1).f2).length c403_3) ∧ w'.cell? ad405 = some (.int .i64 ((rd_T36 ((rd_T39 t398 x13_1).f2) 0).f0)) ∧ w'.cell? ⟨ad405.block, ad405.off + 1, none⟩ = some (.int .i64 ((rd_T36 ((rd_T39 t398 x13_1).f2) 0).f1))) (ds := [14, 15]) #[false, false, false, false, false, false, false, false, false, false, false, false, false, false, false, false, false] (by kernel_rfl) rfl rfl ⟨hx403_0, hx403_1, hx403_2, hx403_3, hx404_0, hx404_1, hx404_2, hx404_3, hx405_0, hx405_1⟩ (fun hHeld => ?_); refine with_tabW sennitlaw05_AlignOne.tab13 sennitlaw05_AlignOne.bits13 (fun HT_ HW_ => ?_)
                      generalize wr.drew = w33 at HO_9 HO_11 HO_12 HL401_3 HL402_3 HR401_3 HR402_3 HB HL403_3 HL404_3 HR403_3 HR404_3 hx403_0 hx403_1 hx403_2 hx403_3 hx404_0 hx404_1 hx404_2 hx404_3 hx405_0 hx405_1 hHeld ⊢
                      refine pure_ (i := 0) (N := some 63) (v := ?_) (a' := ?_) #[true, false, false, false, false, false, false, false, false, false, false, false, false, false, false, false, false] rfl rfl (any_of HT_.out (by kernel_rfl)) (fun _ _ _ h => h) (Or.inl ⟨by rfl, ?_⟩) ?_ ?_
                      rotate_left
                      · intro w'
                        go_simp
                        with_reducible rfl
                      rotate_left
                      · simp only [Act.put, List.setIfInBounds_toArray, List.set_cons_zero, List.set_cons_succ, i64_w, i32_w]
                        rfl
                      refine pure_ (i := 1) (N := some 64) (v := ?_) (a' := ?_) #[true, true, false, false, false, false, false, false, false, false, false, false, false, false, false, false, false] rfl rfl (any_of HT_.out (by kernel_rfl)) (fun _ _ _ h => h) (Or.inl ⟨by rfl, ?_⟩) ?_ ?_
                      rotate_left
                      · intro w'
                        go_simp
                        with_reducible rfl
                      rotate_left
                      · simp only [Act.put, List.setIfInBounds_toArray, List.set_cons_zero, List.set_cons_succ, i64_w, i32_w]
                        rfl
                      refine pure_ (i := 2) (N := some 65) (v := ?_) (a' := ?_) #[true, true, true, false, false, false, false, false, false, false, false, false, false, false, false, false, false] rfl rfl (any_of HT_.out (by kernel_rfl)) (fun _ _ _ h => h) (Or.inl ⟨by rfl, ?_⟩) ?_ ?_
                      rotate_left
                      · intro w'
                        go_simp
                        with_reducible rfl
                      rotate_left
                      · simp only [Act.put, List.setIfInBounds_toArray, List.set_cons_zero, List.set_cons_succ, i64_w, i32_w]
                        rfl
                      refine pure_ (i := 3) (N := some 66) (v := ?_) (a' := ?_) #[true, true, true, true, false, false, false, false, false, false, false, false, false, false, false, false, false] rfl rfl (any_of HT_.out (by kernel_rfl)) (fun _ _ _ h => h) (Or.inl ⟨by rfl, ?_⟩) ?_ ?_
                      rotate_left
                      · intro w'
                        go_simp
                        with_reducible rfl
                      rotate_left
                      · simp only [Act.put, List.setIfInBounds_toArray, List.set_cons_zero, List.set_cons_succ, i64_w, i32_w]
                        rfl
                      refine pure_ (i := 4) (N := some 67) (v := ?_) (a' := ?_) #[true, true, true, true, true, false, false, false, false, false, false, false, false, false, false, false, false] rfl rfl (any_of HT_.out (by kernel_rfl)) (fun _ _ _ h => h) (Or.inl ⟨by rfl, ?_⟩) ?_ ?_
                      rotate_left
                      · intro w'
                        go_simp
                        with_reducible rfl
                      rotate_left
                      · simp only [Act.put, List.setIfInBounds_toArray, List.set_cons_zero, List.set_cons_succ, i64_w, i32_w]
                        rfl
                      refine pure_ (i := 6) (N := some 69) (v := ?_) (a' := ?_) #[true, true, true, true, true, false, true, false, false, false, false, false, false, false, false, false, false] rfl rfl (any_of HT_.out (by kernel_rfl)) (fun _ _ _ h => h) (Or.inl ⟨by rfl, ?_⟩) ?_ ?_
                      rotate_left
                      · intro w'
                        go_simp
                        with_reducible rfl
                      rotate_left
                      · simp only [Act.put, List.setIfInBounds_toArray, List.set_cons_zero, List.set_cons_succ, i64_w, i32_w]
                        rfl
                      refine pure_ (i := 7) (N := some 70) (v := ?_) (a' := ?_) #[true, true, true, true, true, false, true, true, false, false, false, false, false, false, false, false, false] rfl rfl (any_of HT_.out (by kernel_rfl)) (fun _ _ _ h => h) (Or.inl ⟨by rfl, ?_⟩) ?_ ?_
                      rotate_left
                      · intro w'
                        go_simp
                        with_reducible rfl
                      rotate_left
                      · simp only [Act.put, List.setIfInBounds_toArray, List.set_cons_zero, List.set_cons_succ, i64_w, i32_w]
                        rfl
                      refine pure_ (i := 8) (N := some 71) (v := ?_) (a' := ?_) #[true, true, true, true, true, false, true, true, true, false, false, false, false, false, false, false, false] rfl rfl (any_of HT_.out (by kernel_rfl)) (fun _ _ _ h => h) (Or.inl ⟨by rfl, ?_⟩) ?_ ?_
                      rotate_left
                      · intro w'
                        go_simp
                        with_reducible rfl
                      rotate_left
                      · simp only [Act.put, List.setIfInBounds_toArray, List.set_cons_zero, List.set_cons_succ, i64_w, i32_w]
                        rfl
                      refine pure_ (i := 9) (N := some 72) (v := ?_) (a' := ?_) #[true, true, true, true, true, false, true, true, true, true, false, false, false, false, false, false, false] rfl rfl (any_of HT_.out (by kernel_rfl)) (fun _ _ _ h => h) (Or.inl ⟨by rfl, ?_⟩) ?_ ?_
                      rotate_left
                      · intro w'
                        go_simp
                        with_reducible rfl
                      rotate_left
                      · simp only [Act.put, List.setIfInBounds_toArray, List.set_cons_zero, List.set_cons_succ, i64_w, i32_w]
                        rfl
                      refine take_ (i := 5) (N := some 68) (v := ?_) (a' := ?_) #[true, true, true, true, true, true, true, true, true, true, false, false, false, false, false, false, false] rfl rfl (take_ofW HT_.out HW_.out (by kernel_rfl)) (fun _ _ _ h => h) (Or.inl ⟨by rfl, ?_⟩) hHeld ?_ ?_
                      rotate_left
                      · rintro w' ⟨s0, s1, s2, s3, s4, s5, s6, s7, s8, s9⟩
                        go_simp
                        with_reducible rfl
                      rotate_left
                      · simp only [Act.put, List.setIfInBounds_toArray, List.set_cons_zero, List.set_cons_succ, i64_w, i32_w]
                        rfl
                      refine take_ (i := 10) (N := some 73) (v := ?_) (a' := ?_) #[true, true, true, true, true, true, true, true, true, true, true, false, false, false, false, false, false] rfl rfl (take_ofW HT_.out HW_.out (by kernel_rfl)) (fun _ _ _ h => h) (Or.inl ⟨by rfl, ?_⟩) hHeld ?_ ?_
                      rotate_left
                      · rintro w' ⟨s0, s1, s2, s3, s4, s5, s6, s7, s8, s9⟩
                        go_simp
                        with_reducible rfl
                      rotate_left
                      · simp only [Act.put, List.setIfInBounds_toArray, List.set_cons_zero, List.set_cons_succ, i64_w, i32_w]
                        rfl
                      refine pure_ (i := 11) (N := some 74) (v := ?_) (a' := ?_) #[true, true, true, true, true, true, true, true, true, true, true, true, false, false, false, false, false] rfl rfl (any_of HT_.out (by kernel_rfl)) (fun _ _ _ h => h) (Or.inl ⟨by rfl, ?_⟩) ?_ ?_
                      rotate_left
                      · intro w'
                        go_simp
                        with_reducible rfl
                      rotate_left
                      · simp only [Act.put, List.setIfInBounds_toArray, List.set_cons_zero, List.set_cons_succ, i64_w, i32_w]
                        rfl
                      refine take_ (i := 12) (N := some 75) (v := ?_) (a' := ?_) #[true, true, true, true, true, true, true, true, true, true, true, true, true, false, false, false, false] rfl rfl (take_ofW HT_.out HW_.out (by kernel_rfl)) (fun _ _ _ h => h) (Or.inl ⟨by rfl, ?_⟩) hHeld ?_ ?_
                      rotate_left
                      · rintro w' ⟨s0, s1, s2, s3, s4, s5, s6, s7, s8, s9⟩
                        go_simp
                        with_reducible rfl
                      rotate_left
                      · simp only [Act.put, List.setIfInBounds_toArray, List.set_cons_zero, List.set_cons_succ, i64_w, i32_w]
                        rfl
                      refine pure_ (i := 13) (N := some 76) (v := ?_) (a' := ?_) #[true, true, true, true, true, true, true, true, true, true, true, true, true, true, false, false, false] rfl rfl (any_of HT_.out (by kernel_rfl)) (fun _ _ _ h => h) (Or.inl ⟨by rfl, ?_⟩) ?_ ?_
                      rotate_left
                      · intro w'
                        go_simp
                        with_reducible rfl
                      rotate_left
                      · simp only [Act.put, List.setIfInBounds_toArray, List.set_cons_zero, List.set_cons_succ, i64_w, i32_w]
                        rfl
                      refine last_ (i := 14) (N := some 77) #[true, true, true, true, true, true, true, true, true, true, true, true, true, true, true, false, false] rfl rfl (one_of HT_.out (by kernel_rfl)) (by decide) (fun K hK => ?_)
                      refine value_ (w1 := ?_) (v := ?_) (by rfl) rfl ?_ ?_
                      rotate_left 2
                      · go_simp
                        constructor
                        · rfl
                        · rfl
                      refine hK.out _ _ ?_
                      clear hK K
                      refine norm_ (a' := ?_) ?_ ?_
                      rotate_left
                      · show Act.put _ (some 77) _ = _
                        simp only [Act.put, List.setIfInBounds_toArray, List.set_cons_zero, List.set_cons_succ, i64_w, i32_w]
                        rfl
                      refine last_ (i := 15) (N := some 78) #[true, true, true, true, true, true, true, true, true, true, true, true, true, true, true, true, false] rfl rfl (one_of HT_.out (by kernel_rfl)) (by decide) (fun K hK => ?_)
                      refine Kd.R_append_step k60 (w0 := w) w.heap.size (by rfl) (.tmp 63) (.tmp 77) 43 60 (.agg #[(.int .i64 0), (.int .i64 0), (.int .i64 0), (.int .i64 0)]) 32 rfl Try.underlying43 info60 rfl (by decide) (by omega) u12 x12_1 (⟨(⟨(rd_T39 t398 x13_1).f1.f0, (rd_T39 t398 x13_1).f1.f1⟩ : S36), (⟨(rd_T36 ((rd_T39 t398 x13_1).f2) 0).f0, (rd_T36 ((rd_T39 t398 x13_1).f2) 0).f1⟩ : S36)⟩ : S60) [.int .i64 ((rd_T39 t398 x13_1).f1.f0), .int .i64 ((rd_T39 t398 x13_1).f1.f1), .int .i64 ((rd_T36 ((rd_T39 t398 x13_1).f2) 0).f0), .int .i64 ((rd_T36 ((rd_T39 t398 x13_1).f2) 0).f1)] (fun k_ => (w.heap.size ≤ k_) ∧ some k_ ≠ (v396 : Value).ownBlock) (fun _ => False) rfl rfl ?aP (fun _ hk => hk.elim) ?aF ?aO ?aB ?aS ?aL ?_
                      (case aP => exact k60_mkM _ _ _ (⟨(⟨(rd_T39 t398 x13_1).f1.f0, (rd_T39 t398 x13_1).f1.f1⟩ : S36), (⟨(rd_T36 ((rd_T39 t398 x13_1).f2) 0).f0, (rd_T36 ((rd_T39 t398 x13_1).f2) 0).f1⟩ : S36)⟩ : S60))
                      (case aB => exact (by repeat (first | (with_reducible first | exact HB.out | apply below_alloc | apply pw_below_drewN | apply below_drew1) | exact HB.out)))
                      (case aF => exact (fun k_ hk => ⟨(Nat.le_trans (below_size (by repeat (first | (with_reducible first | exact HB.out | apply below_alloc | apply pw_below_drewN | apply below_drew1) | exact HB.out))) hk), Kd.fresh' (Kd.R_lt (by (with_reducible repeat (first | apply Kd.R_alloc | apply Kd.R_drewN | apply Kd.R_drew)); exact HO_9.out)) k_ hk⟩))
                      (case aO => exact (by (with_reducible repeat (first | apply Kd.R_alloc | apply Kd.R_drewN | apply Kd.R_drew)); exact HO_12.out))
                      (case aS => exact (below_size (by repeat (first | (with_reducible first | exact HB.out | apply below_alloc | apply pw_below_drewN | apply below_drew1) | exact HB.out))))
                      (case aL => have := LMc31.out; omega)
                      intro v407 w34 ho hb hg hat
                      rw [← Ny406.out] at ho
                      have n0_ := Aside0.mk (Kd.R_after (ok := (fun k_ => (w.heap.size ≤ k_))) (by (with_reducible repeat (first | apply Kd.R_alloc | apply Kd.R_drewN | apply Kd.R_drew)); exact HO_9.out) hg hat)
                      have n1_ := Aside0.mk (Kd.N_afterv (ok := (fun k_ => (P1_ k_ ∨ w.heap.size ≤ k_) ∧ some k_ ≠ (v396 : Value).ownBlock)) (by (with_reducible repeat (first | apply Kd.N_alloc | apply Kd.N_drewN | apply Kd.N_drew)); exact Kd.N_mono HO_11.out (fun _ hk => ⟨⟨hk.1, hk.2.1⟩, hk.2.2⟩)) hg hat)
                      have n2_ := Aside0.mk (Kd.V_afterv (ok := (fun k_ => (P1_ k_ ∨ w.heap.size ≤ k_) ∧ some k_ ≠ (v396 : Value).ownBlock ∧ some k_ ≠ (.slice (some ad401) t398.length co32 : Value).ownBlock)) (by (with_reducible repeat (first | apply Kd.V_alloc | apply Kd.V_drewN | apply Kd.V_drew)); exact Kd.V_mono HL401_3.out (fun _ hk => ⟨⟨hk.1.1, ⟨hk.1.2.1, hk.2⟩⟩, hk.1.2.2⟩)) hg hat)
                      have n3_ := Aside0.mk (Kd.V_afterv (ok := (fun k_ => (P1_ k_ ∨ w.heap.size ≤ k_) ∧ some k_ ≠ (v396 : Value).ownBlock ∧ some k_ ≠ (.slice (some ad401) t398.length co32 : Value).ownBlock)) (by (with_reducible repeat (first | apply Kd.V_alloc | apply Kd.V_drewN | apply Kd.V_drew)); exact Kd.V_mono HL402_3.out (fun _ hk => ⟨⟨hk.1.1, ⟨hk.1.2.1, hk.2⟩⟩, hk.1.2.2⟩)) hg hat)
                      have n4_ := Aside0.mk (Kd.V_afterv (ok := (fun k_ => (P1_ k_ ∨ w.heap.size ≤ k_) ∧ some k_ ≠ (v396 : Value).ownBlock ∧ some k_ ≠ (.slice (some ad401) t398.length co32 : Value).ownBlock)) (by (with_reducible repeat (first | apply Kd.V_alloc | apply Kd.V_drewN | apply Kd.V_drew)); exact Kd.V_mono HL403_3.out (fun _ hk => ⟨⟨hk.1.1, ⟨hk.1.2.1, hk.2⟩⟩, hk.1.2.2⟩)) hg hat)
                      have n5_ := Aside0.mk (Kd.V_afterv (ok := (fun k_ => (P1_ k_ ∨ w.heap.size ≤ k_) ∧ some k_ ≠ (v396 : Value).ownBlock ∧ some k_ ≠ (.slice (some ad401) t398.length co32 : Value).ownBlock)) (by (with_reducible repeat (first | apply Kd.V_alloc | apply Kd.V_drewN | apply Kd.V_drew)); exact Kd.V_mono HL404_3.out (fun _ hk => ⟨⟨hk.1.1, ⟨hk.1.2.1, hk.2⟩⟩, hk.1.2.2⟩)) hg hat)
                      have n6_ := Aside0.mk (hb)
                      have n7_ := Aside0.mk (ho)
                      clear HO_9
                      clear HO_11
                      clear HL401_3
                      clear HL402_3
                      clear HL403_3
                      clear HL404_3
                      clear HB
                      clear HO_12
                      have HO_9 := n0_
                      have HO_11 := n1_
                      have HL401_3 := n2_
                      have HL402_3 := n3_
                      have HL403_3 := n4_
                      have HL404_3 := n5_
                      have HB := n6_
                      have HO408 := n7_
                      clear n0_ n1_ n2_ n3_ n4_ n5_ n6_ n7_
                      clear ho hb hg hat
                      refine hK.out _ _ ?_
                      clear hK K
                      refine norm_ (a' := ?_) ?_ ?_
                      rotate_left
                      · show Act.put _ (some 78) _ = _
                        simp only [Act.put, List.setIfInBounds_toArray, List.set_cons_zero, List.set_cons_succ, i64_w, i32_w]
                        rfl
                      refine pure_ (i := 16) (N := some 12) (v := ?_) (a' := ?_) #[true, true, true, true, true, true, true, true, true, true, true, true, true, true, true, true, true] rfl rfl (any_of HT_.out (by kernel_rfl)) (fun _ _ _ h => h) (Or.inl ⟨by rfl, ?_⟩) ?_ ?_
                      rotate_left
                      · intro w'
                        go_simp
                        with_reducible rfl
                      rotate_left
                      · simp only [Act.put, List.setIfInBounds_toArray, List.set_cons_zero, List.set_cons_succ, i64_w, i32_w]
                        rfl
                      refine done_ (done_of HT_.out (by kernel_rfl)) ?_
                      try go_wp2
                      go_roundg k1
                      case measure => have := HK1.out; omega
                      case rel => exact ⟨(y406), (wrap64 (x13_1 + 1)), (by first | rfl | (simp; done) | (simp [*]; done)), H', ⟨by have := HK1.out; omega⟩, ⟨by (with_reducible repeat (first | apply Kd.R_alloc | apply Kd.R_drewN | apply Kd.R_drew)); exact HO_9.out⟩, ⟨by (with_reducible repeat (first | apply Kd.N_alloc | apply Kd.N_drewN | apply Kd.N_drew)); exact Kd.N_mono HO_11.out (fun _ hk => ⟨hk.1.1, ⟨hk.1.2, hk.2⟩⟩)⟩, ⟨by (with_reducible repeat (first | apply Kd.R_alloc | apply Kd.R_drewN | apply Kd.R_drew)); exact HO408.out⟩, ⟨by repeat (first | (with_reducible first | exact HB.out | apply below_alloc | apply pw_below_drewN | apply below_drew1) | exact HB.out)⟩⟩
                    · rw [if_neg c31] at H
                      exact absurd H (by simp)
                  · rw [if_neg c30] at H
                    exact absurd H (by simp)
                · rw [if_neg c29] at H
                  have c29b0 : ((((rd_T39 t398 x13_1).f2).length : Int) == 1) = false := beq_eq_false_iff_ne.mpr c29
                  have c29b1 : ((((rd_T39 t398 x13_1).f2).length : Int) != 1) = true := bne_iff_ne.mpr c29
                  have H' := Aside0.mk H
                  clear H
                  obtain ⟨Ao35, co35, eo35⟩ := Kd.N_slice HO_11.out
                  subst eo35
                  have p401 : 0 ≤ (x13_1 : Int) := of_decide_eq_true (by first | (with_reducible assumption) | assumption)
                  have q401 : x13_1 < (t398.length : Int) := of_decide_eq_true (by first | (with_reducible assumption) | assumption)
                  obtain ⟨ad401, A401_3, c401_3, e401, hx401_0, hx401_1, hx401_2, hx401_3, hl401_3, hi401_3⟩ := at_T39 (Kd.N_reads' HO_11.out).2.2 x13_1 p401 q401
                  (try rw [← Nbq26.out] at hx401_0)
                  cases e401
                  obtain ⟨ce401, hce401, hMe401, hcc401⟩ := Kd.N_get HO_11.out z39 x13_1 p401 (by first | exact q401 | exact of_decide_eq_true (by first | (with_reducible assumption) | assumption) | (have e_ := (Kd.N_reads' HO_11.out).1; omega))
                  obtain ⟨ua401_3, uc401_3, rfl, ul401_3, ge401_3⟩ := k39_openF hMe401
                  have hv401_3 := hcc401 3 _ rfl
                  rw [add_field _ _ 3 (by omega)] at hv401_3
                  replace hv401_3 := Option.some.inj (hv401_3.symm.trans hx401_3)
                  injection hv401_3 with hva_ hvn_ hvc_
                  rw [hva_] at ge401_3
                  rw [hvc_] at ul401_3
                  have HL401_3 := Aside0.mk (show Kd.V k36 36 _ w.heap.size _ _ ((rd_T39 t398 x13_1).f2) from Kd.V_mk ul401_3 ge401_3)
                  clear hva_ hvn_ hvc_ ge401_3 ul401_3
                  clear hcc401 hce401
                  have HR401_3 := Aside0.mk hi401_3
                  have HC401_3 := Aside0.mk hl401_3
                  clear hi401_3 hl401_3
                  replace p401 := eq_true p401
                  replace q401 := eq_true q401
                  have p402 : 0 ≤ (x13_1 : Int) := of_decide_eq_true (by first | (with_reducible assumption) | assumption)
                  have q402 : x13_1 < (t398.length : Int) := of_decide_eq_true (by first | (with_reducible assumption) | assumption)
                  obtain ⟨ad402, A402_3, c402_3, e402, hx402_0, hx402_1, hx402_2, hx402_3, hl402_3, hi402_3⟩ := at_T39 (Kd.N_reads' HO_11.out).2.2 x13_1 p402 q402
                  (try rw [← Nbq26.out] at hx402_0)
                  obtain rfl : ad401 = ad402 := (by injection e402)
                  obtain ⟨ce402, hce402, hMe402, hcc402⟩ := Kd.N_get HO_11.out z39 x13_1 p402 (by first | exact q402 | exact of_decide_eq_true (by first | (with_reducible assumption) | assumption) | (have e_ := (Kd.N_reads' HO_11.out).1; omega))
                  obtain ⟨ua402_3, uc402_3, rfl, ul402_3, ge402_3⟩ := k39_openF hMe402
                  have hv402_3 := hcc402 3 _ rfl
                  rw [add_field _ _ 3 (by omega)] at hv402_3
                  replace hv402_3 := Option.some.inj (hv402_3.symm.trans hx402_3)
                  injection hv402_3 with hva_ hvn_ hvc_
                  rw [hva_] at ge402_3
                  rw [hvc_] at ul402_3
                  have HL402_3 := Aside0.mk (show Kd.V k36 36 _ w.heap.size _ _ ((rd_T39 t398 x13_1).f2) from Kd.V_mk ul402_3 ge402_3)
                  clear hva_ hvn_ hvc_ ge402_3 ul402_3
                  clear hcc402 hce402
                  have HR402_3 := Aside0.mk hi402_3
                  have HC402_3 := Aside0.mk hl402_3
                  clear hi402_3 hl402_3
                  replace p402 := eq_true p402
                  replace q402 := eq_true q402
                  have ea_ := Option.some.inj (hx401_3.symm.trans hx402_3)
                  injection ea_ with ea_ en_ ec_
                  subst ea_
                  subst ec_
                  clear en_
                  go_wp2
                  go_roundg k1
                  case measure => have := HK1.out; omega
                  case rel => exact ⟨(x12_1), (wrap64 (x13_1 + 1)), (by first | rfl | (simp; done) | (simp [*]; done)), H', ⟨by have := HK1.out; omega⟩, ⟨by (with_reducible repeat (first | apply Kd.R_alloc | apply Kd.R_drewN | apply Kd.R_drew)); exact HO_9.out⟩, ⟨by (with_reducible repeat (first | apply Kd.N_alloc | apply Kd.N_drewN | apply Kd.N_drew)); exact HO_11.out⟩, ⟨by (with_reducible repeat (first | apply Kd.R_alloc | apply Kd.R_drewN | apply Kd.R_drew)); exact HO_12.out⟩, ⟨by repeat (first | (with_reducible first | exact HB.out | apply below_alloc | apply pw_below_drewN | apply below_drew1) | exact HB.out)⟩⟩
            · rw [if_neg c25] at H
              exact absurd H (by simp)
          · rw [if_neg c24] at H
            have c24b0 : decide (x13_1 < (t398.length : Int)) = false := decide_eq_false c24
            clear c24
            by_cases c36 : t376 = true
            · subst c36
              have H1 : ((sennitref04_Same.f k1 x12_1 t394).bind fun t409 => (some t409)) = some r := by rw [if_pos rfl] at H; exact H
              clear H
              have H := H1
              clear H1
              replace H := Option.bind_eq_some_iff.mp H
              obtain ⟨t409, A370, H⟩ := H
              replace H : (some t409) = some r := H
              have A37 := Aside0.mk A370
              clear A370
              obtain rfl := Option.some.inj H
              obtain ⟨Ao38, co38, eo38⟩ := Kd.N_slice HO_11.out
              subst eo38
              obtain ⟨Ao39, co39, eo39⟩ := Kd.R_slice HO_12.out
              subst eo39
              obtain ⟨Ao40, co40, eo40⟩ := Kd.R_slice HO_9.out
              subst eo40
              go_wp2_with (first | (go_at_call 25; (with_reducible refine (sennitref04_Same.calls k1 _ _ x12_1 _ _ t394 t409 _ ?side1 ?side2 ?side3 ?side4 A37.out).mono ?_); (case side1 => repeat (first | exact (Kd.R_reads' HO_12.out).2.2 | (with_reducible refine Kd.C_alloc ?_ _) | (with_reducible refine Kd.C_drewN ?_ _) | (with_reducible refine Kd.C_drew ?_))); (case side2 => exact (Kd.R_reads' HO_12.out).2.1); (case side3 => repeat (first | exact (Kd.R_reads' HO_9.out).2.2 | (with_reducible refine Kd.C_alloc ?_ _) | (with_reducible refine Kd.C_drewN ?_ _) | (with_reducible refine Kd.C_drew ?_))); (case side4 => exact (Kd.R_reads' HO_9.out).2.1); rintro e w' ⟨rfl, ⟨nd, rfl⟩⟩))
              go_ret
              exact ⟨by first | rfl | (simp [errW_none, errW_some] <;> rfl) | (simp [*, errW_none, errW_some] <;> rfl), by repeat (first | (with_reducible first | exact HB.out | apply below_alloc | apply pw_below_drewN | apply below_drew1) | exact HB.out)⟩
            · replace c36 := Bool.eq_false_iff.mpr c36
              subst c36
              have H1 : (some false) = some r := by rw [if_neg (show ¬ (false = true) by decide)] at H; exact H
              clear H
              have H := H1
              clear H1
              obtain rfl := Option.some.inj H
              obtain ⟨Ao41, co41, eo41⟩ := Kd.N_slice HO_11.out
              subst eo41
              go_wp2
              go_ret
              exact ⟨by first | rfl | (simp [errW_none, errW_some] <;> rfl) | (simp [*, errW_none, errW_some] <;> rfl), by repeat (first | (with_reducible first | exact HB.out | apply below_alloc | apply pw_below_drewN | apply below_drew1) | exact HB.out)⟩
    · rw [if_neg c9] at H
      exact absurd H (by simp)
  · replace c5 := Bool.eq_false_iff.mpr c5
    subst c5
    have H1 : (some t376) = some r := by rw [if_neg (show ¬ (false = true) by decide)] at H; exact H
    clear H
    have H := H1
    clear H1
    obtain rfl := Option.some.inj H
    go_enter Try.func13, Try.ntmps13
    go_wp2_with (first | ((with_reducible refine gate_callee (f := 14) rfl ?_); refine goesL_ (some 14) rfl rfl Try.func14 (by kernel_rfl) rfl #[] rfl (by (try simp only [List.map_toArray, List.map_cons, List.map_nil]); first | done | rfl | (simp only [List.length_drop, List.length_take]; rfl)) ?_; (with_reducible refine (sennitlaw05_awake.calls k  t376 _ A3.out).mono ?_); rintro e w42 ⟨rfl, hb⟩; refine ⟨_, rfl, ?_⟩; have n0_ := Aside0.mk (Kd.V_below (by (with_reducible repeat (first | apply Kd.V_alloc | apply Kd.V_drewN | apply Kd.V_drew)); exact HO1.out) hb); have n1_ := Aside0.mk (below_step (by repeat (first | (with_reducible first | exact HB.out | apply below_alloc | apply pw_below_drewN | apply below_drew1) | exact HB.out)) hb); clear HO1; clear HB; have HO1 := n0_; have HB := n1_; clear n0_ n1_; (try clear hb); (try clear hb2); (try clear hk); (try clear hi)) | ((with_reducible refine gate_dst (N := 16) rfl ?_); (try (refine gate_guard (by rfl) ?_; dsimp only)); refine Kd.N_lit (Kd.slice 5 (Kd.int .u8)) _ 22 ?hg (N' := 16) ?hd (xs := ([l1] : List (List Int))) (inner := [.slice A1 l1.length c1]) (ok := (fun k_ => (P1_ k_ ∨ w.heap.size ≤ k_))) (okp := (fun k_ => (P1_ k_ ∨ w.heap.size ≤ k_))) ?hr ?hp (fun _ hk => hk) ((show ∀ k_, w42.heap.size ≤ k_ → (fun k_ => (P1_ k_ ∨ w.heap.size ≤ k_)) k_ from fun k_ hk => (.inr (Nat.le_trans (below_size (by repeat (first | (with_reducible first | exact HB.out | apply below_alloc | apply pw_below_drewN | apply below_drew1) | exact HB.out))) hk))) _ (Nat.le_refl _)) (Below.refl _ _) (Nat.le_refl _) (by simp) ?_; (case hd => rfl); (case hg => rfl); (case hr => first | (go_simp; done) | (go_simp; rfl)); (case hp => exact (Reps.one (show Kd.FK (Kd.slice 5 (Kd.int .u8)) _ _ l1 [.slice A1 l1.length c1] from (Kd.FK_slice_mk (Kd.V_reads' (Kd.V_mono (ok' := (fun k_ => (P1_ k_ ∨ w.heap.size ≤ k_))) (HO1.out) (fun k_ hk => hk))).2.1 (Kd.V_F (Kd.V_mono (ok' := (fun k_ => (P1_ k_ ∨ w.heap.size ≤ k_))) (HO1.out) (fun k_ hk => hk))))) (Reps.none _ _))); intro v378 w43 ho44 hb hg_ hnew_; clear hg_ hnew_; (first | rw [← Ny377.out] at ho44 | (simp only [Int.reduceToNat] at ho44; rw [← Ny377.out] at ho44)); have n0_ := Aside0.mk (Kd.V_elder' (by (with_reducible repeat (first | apply Kd.V_alloc | apply Kd.V_drewN | apply Kd.V_drew)); exact HO1.out) (Kd.N_base ho44) hb); have n1_ := Aside0.mk (Kd.N_lower ho44 (below_size (by repeat (first | (with_reducible first | exact HB.out | apply below_alloc | apply pw_below_drewN | apply below_drew1) | exact HB.out)))); have n2_ := Aside0.mk (below_step (by repeat (first | (with_reducible first | exact HB.out | apply below_alloc | apply pw_below_drewN | apply below_drew1) | exact HB.out)) hb); clear HO1; clear HB; have HO1 := n0_; have HO379 := n1_; have HB := n2_; clear n0_ n1_ n2_; clear hb ho44; obtain ⟨Ao45, co45, eo45⟩ := Kd.N_slice HO379.out; subst eo45) | ((with_reducible refine gate_callee (f := 15) rfl ?_); refine goesL_ (some 19) rfl rfl Try.func15 (by kernel_rfl) rfl #[.slice A0 l0.length c0, .slice Ao45 y377.length co45] rfl (by (try simp only [List.map_toArray, List.map_cons, List.map_nil]); first | done | rfl | (simp only [List.length_drop, List.length_take]; rfl)) ?_; (with_reducible refine (sennitref05_Few.calls k _ _ l0 _ _ y377 false _ ?side1 ?side2 ?side3 ?side4 A4.out).mono ?_); (case side1 => repeat (first | exact (Kd.C_below HR0.out HB.out) | (with_reducible refine Kd.C_alloc ?_ _) | (with_reducible refine Kd.C_drewN ?_ _) | (with_reducible refine Kd.C_drew ?_))); (case side2 => exact HC0.out); (case side3 => repeat (first | exact (Kd.N_reads' HO379.out).2.2 | (with_reducible refine Kd.C_alloc ?_ _) | (with_reducible refine Kd.C_drewN ?_ _) | (with_reducible refine Kd.C_drew ?_))); (case side4 => exact (Kd.N_reads' HO379.out).2.1); rintro e w' ⟨rfl, ⟨nd, rfl⟩⟩; refine ⟨_, rfl, ?_⟩))
    go_ret
    exact ⟨by first | rfl | (simp [errW_none, errW_some] <;> rfl) | (simp [*, errW_none, errW_some] <;> rfl), by repeat (first | (with_reducible first | exact HB.out | apply below_alloc | apply pw_below_drewN | apply below_drew1) | exact HB.out)⟩

end Go.Proofs.Ytnebadlakmlkkaa.M
namespace Go.Proofs.Ytnebadlakmlkkaa.Pure
open Go.RowKit Go.Proofs.Ytnebadlakmlkkaa.M Go.Proofs.Ytnebadlakmlkkaa.Hand Go.Proofs.YtnebadlakmlkkaaW.PrintWords Go.Proofs.YtnebadlakmlkkaaW.PrintLast Go.Proofs.YtnebadlakmlkkaaW.PrintMore
set_option linter.unusedVariables false
/-- Some match that may be, as edit tells it. -/
theorem mayL_ok (l : List Int) (n : Int) (h : MOk l n) : ∀ d i last, i + d = l.length → -1 ≤ last → (last = -1 ∨ ∃ p, p < i ∧ l.getD p 0 = last) → mayL n last (l.drop i) = true := by
  intro d
  induction d with
  | zero =>
    intro i last hi _ _
    rw [List.drop_of_length_le (by omega), mayL, decide_eq_true h.n0]
  | succ d ih =>
    intro i last hi h1 h2
    have hlt : i < l.length := by omega
    have a1 := h.low i hlt
    have a2 := h.high i hlt
    have hd : l.drop i = l.getD i 0 :: l.drop (i + 1) := by rw [List.drop_eq_getElem_cons hlt, List.getD_eq_getElem?_getD, List.getElem?_eq_getElem hlt]; rfl
    rw [hd, mayL, if_neg (by omega), if_neg (by omega)]
    by_cases hx : l.getD i 0 ≥ 0
    · have hlast : last < l.getD i 0 := by
        rcases h2 with h2 | ⟨p, hp, h2⟩
        · omega
        · by_cases h0 : 0 ≤ last
          · have := h.inc p i hp hlt (by omega) hx
            omega
          · omega
      have hm : mx last (l.getD i 0) = l.getD i 0 := by unfold mx; rw [if_pos hlast]
      rw [if_pos hx, if_neg (by omega), hm]
      exact ih (i + 1) _ (by omega) (by omega) (.inr ⟨i, by omega, rfl⟩)
    · have hm : mx last (l.getD i 0) = last := by unfold mx; rw [if_neg (by omega)]
      rw [if_neg hx, hm]
      exact ih (i + 1) _ (by omega) h1 (by rcases h2 with h2 | ⟨p, hp, h2⟩; exact .inl h2; exact .inr ⟨p, by omega, h2⟩)
theorem prsL_drop (l : List Int) (i : Nat) (h : i < l.length) : prsL i (l.drop i) = if l.getD i 0 ≥ 0 then ((i : Int), l.getD i 0) :: prsL (i + 1) (l.drop (i + 1)) else prsL (i + 1) (l.drop (i + 1)) := by
  have hd : l.drop i = l.getD i 0 :: l.drop (i + 1) := by rw [List.drop_eq_getElem_cons h, List.getD_eq_getElem?_getD, List.getElem?_eq_getElem h]; rfl
  rw [hd, prsL]
/-- The chunks that aren't stable, as changes. -/
def restG (l : List S39) : List S60 := l.foldl (fun acc c => if c.f0 = true then acc else acc ++ [⟨c.f1, c.f2.getD 0 z36⟩]) []
def chgL : List S39 → List S60
  | [] => []
  | c :: t => if c.f0 = true then chgL t else ⟨c.f1, c.f2.getD 0 z36⟩ :: chgL t
def foldC (s : StC) (ps : List (Int × Int)) : StC := ps.foldl stepC s
theorem foldC_cons (s : StC) (p : Int × Int) (ps : List (Int × Int)) : foldC s (p :: ps) = foldC (stepC s p) ps := rfl
theorem stab_one (m0 : List Int) (k : Nat) : stabB [m0] k = true ↔ 0 ≤ m0.getD k 0 := by
  rw [stab_iff]
  constructor
  · intro h; exact h 0 (by simp)
  · intro h i hi
    have : i = 0 := by simp at hi; exact hi
    subst this; exact h
theorem step_same (acc : List S60) (x y : Int) (hx : 0 ≤ x ∧ x ≤ 1000000) (hy : 0 ≤ y ∧ y ≤ 1000000) : stepC ⟨acc, x, y⟩ (x, y) = ⟨acc, x + 1, y + 1⟩ := by
  have e1 : wrap64 (x + 1) = x + 1 := wsm (by omega) (by omega)
  have e2 : wrap64 (y + 1) = y + 1 := wsm (by omega) (by omega)
  simp only [stepC, e1, e2]
  rw [if_neg (by omega)]
theorem step_more (acc : List S60) (x y x' y' : Int) (h : x < x' ∨ y < y') (hx : 0 ≤ x' ∧ x' ≤ 1000000) (hy : 0 ≤ y' ∧ y' ≤ 1000000) : stepC ⟨acc, x, y⟩ (x', y') = ⟨acc ++ [⟨⟨x, x'⟩, ⟨y, y'⟩⟩], x' + 1, y' + 1⟩ := by
  have e1 : wrap64 (x' + 1) = x' + 1 := wsm (by omega) (by omega)
  have e2 : wrap64 (y' + 1) = y' + 1 := wsm (by omega) (by omega)
  simp only [stepC, e1, e2]
  rw [if_pos (by omega)]
/-- Over a stable chunk. -/
theorem fold_stab (m0 : List Int) (tail : List (Int × Int)) (acc : List S60) (b : Nat) (a : Int) (e : Nat) (he : e ≤ m0.length) (ha : 0 ≤ a) (ha2 : a + e ≤ 1000000) (he2 : e ≤ 1000000) (h : ∀ k, b ≤ k → k < e → m0.getD k 0 = a + k - b) : ∀ d k, k + d = e → b ≤ k →
    foldC ⟨acc, k, a + k - b⟩ (prsL k (m0.drop k) ++ tail) = foldC ⟨acc, e, a + e - b⟩ (prsL e (m0.drop e) ++ tail) := by
  intro d
  induction d with
  | zero => intro k hk _; obtain rfl : k = e := by omega
            rfl
  | succ d ih =>
    intro k hk hb
    have h1 := h k hb (by omega)
    rw [prsL_drop m0 k (by omega), if_pos (by omega), List.cons_append, foldC_cons, h1, step_same _ _ _ (by omega) (by omega)]
    have := ih (k + 1) (by omega) (by omega)
    rw [← this]
    congr 2
    omega
/-- Over places that are not paired. -/
theorem prs_skip (m0 : List Int) (b e : Nat) (he : e ≤ m0.length) (h : ∀ k, b ≤ k → k < e → m0.getD k 0 < 0) : ∀ d k, k + d = e → b ≤ k → prsL k (m0.drop k) = prsL e (m0.drop e) := by
  intro d
  induction d with
  | zero => intro k hk _; obtain rfl : k = e := by omega
            rfl
  | succ d ih =>
    intro k hk hb
    have h1 := h k hb (by omega)
    rw [prsL_drop m0 k (by omega), if_neg (by omega)]
    exact ih (k + 1) (by omega) (by omega)
theorem fits_chg (m0 : List Int) (n : Int) (hm : m0.length ≤ 1000) (hn : n ≤ 1000) : ∀ (l : List S39) (b : Nat) (a : Int) (p : Option Bool) (acc : List S60), Fits [m0] m0.length [n] b [a] p l → 0 ≤ a →
    (foldC ⟨acc, b, a⟩ (prsL b (m0.drop b) ++ [((m0.length : Int), n)])).l = acc ++ chgL l
  | [], b, a, p, acc, h, ha => by
    obtain ⟨hb, he⟩ := h
    obtain rfl : b = m0.length := by omega
    injection he with he _
    subst he
    rw [List.drop_length]
    show (foldC ⟨acc, _, a⟩ [((m0.length : Int), a)]).l = _
    rw [foldC_cons, step_same _ _ _ (by omega) (by omega)]
    simp [foldC, chgL]
  | c :: t, b, a, p, acc, h, ha => by
    obtain ⟨h1, h2, h3⟩ := h
    obtain ⟨q1, q2, q3⟩ := fits_end t _ _ _ h3
    have hlen : c.f2.length = 1 := h1.hlen
    have e0 := h1.hf 0 (by simp)
    have e1 := h1.hsl 0 (by simp)
    have e2 := q3 0 (by rw [tos_len, hlen]; omega)
    rw [tos_get _ _ (by rw [hlen]; omega)] at e2
    have ga : ([a] : List Int).getD 0 0 = a := rfl
    have gn : ([n] : List Int).getD 0 0 = n := rfl
    rw [ga] at e0 e1
    rw [gn] at e2
    have hle := h1.hle
    obtain ⟨e, he⟩ : ∃ e : Nat, c.f1.f1 = e := ⟨c.f1.f1.toNat, by omega⟩
    have hto : tos c = [(c.f2.getD 0 z36).f1] := by
      refine ext_getD 0 _ _ (by rw [tos_len, hlen]; rfl) fun i hi => ?_
      rw [tos_len, hlen] at hi
      obtain rfl : i = 0 := by omega
      rw [tos_get _ _ (by rw [hlen]; omega)]; rfl
    rw [he, hto] at h3
    cases hc : c.f0 with
    | true =>
      have hst := h1.hst hc 0 (by simp)
      rw [ga] at hst
      have hk : ∀ k, b ≤ k → k < e → m0.getD k 0 = a + k - b := fun k k1 k2 => by
        have := (h1.hk k (by omega) (by omega)).2 hc 0 (by simp)
        rw [ga] at this
        exact this
      have hrun := fold_stab m0 [((m0.length : Int), n)] acc b a e (by omega) ha (by omega) (by omega) hk (e - b) b (by omega) (Nat.le_refl _)
      rw [show a + (b : Int) - b = a by omega] at hrun
      rw [hrun]
      have e5 : a + (e : Int) - b = (c.f2.getD 0 z36).f1 := by omega
      rw [e5, chgL, if_pos hc]
      exact fits_chg m0 n hm hn t e _ _ acc h3 (by omega)
    | false =>
      have hk : ∀ k, b ≤ k → k < e → m0.getD k 0 < 0 := fun k k1 k2 => by
        have := (h1.hk k (by omega) (by omega)).1
        rw [hc] at this
        have h4 := mt (stab_one m0 k).2 (by rw [this]; decide)
        omega
      rw [prs_skip m0 b e (by omega) hk (e - b) b (by omega) (Nat.le_refl _), chgL, if_neg (by rw [hc]; decide)]
      have hcc : (⟨c.f1, c.f2.getD 0 z36⟩ : S60) = ⟨⟨(b : Int), (e : Int)⟩, ⟨a, (c.f2.getD 0 z36).f1⟩⟩ := by
        obtain ⟨s, ⟨x, y⟩, f⟩ := c
        have hb' : x = b := h1.hb
        have he' : y = e := he
        have e0' : (f.getD 0 z36).f0 = a := e0
        subst hb' he'
        show (⟨⟨(b : Int), (e : Int)⟩, f.getD 0 z36⟩ : S60) = ⟨⟨(b : Int), (e : Int)⟩, ⟨a, (f.getD 0 z36).f1⟩⟩
        rw [← e0']
      have hmore : (b : Int) < (e : Int) ∨ a < (c.f2.getD 0 z36).f1 := by
        rcases h1.hne with h5 | ⟨i, hi, h5⟩
        · exact .inl (by omega)
        · have hi' : i = 0 := by simp at hi; exact hi
          subst hi'
          rw [ga] at h5
          exact .inr h5
      rw [hcc]
      generalize (c.f2.getD 0 z36).f1 = a' at h3 e1 e2 hmore ⊢
      rw [hc] at h3
      match t, h3 with
      | [], h3 =>
        obtain ⟨hb, hae⟩ := h3
        obtain rfl : e = m0.length := by omega
        injection hae with hae _
        subst hae
        rw [List.drop_length]
        show (foldC ⟨acc, _, a⟩ [((m0.length : Int), a')]).l = _
        rw [foldC_cons, step_more _ _ _ _ _ hmore (by omega) (by omega)]
        simp [foldC, chgL]
      | d :: t, h3 =>
        have hd : d.f0 = true := by have := h3.2.1; cases hd : d.f0 <;> simp_all
        have hlt := ok_base h3.1 hd
        have hdk := h3.1.hk e (Int.le_refl _) hlt
        have hde := hdk.2 hd 0 (by simp)
        have hem : (e : Int) < m0.length := by have := (fits_end t _ _ _ h3.2.2).1; omega
        have hme : m0.getD e 0 = a' := by
          have g2 : ([a'] : List Int).getD 0 0 = a' := rfl
          rw [g2] at hde
          unfold mm at hde
          have : ([m0].getD 0 []).getD e 0 = m0.getD e 0 := rfl
          omega
        have ih := fits_chg m0 n hm hn (d :: t) e a' _ (acc ++ [⟨⟨(b : Int), (e : Int)⟩, ⟨a, a'⟩⟩]) h3 (by omega)
        rw [prsL_drop m0 e (by omega), hme, if_pos (by omega), List.cons_append, foldC_cons] at ih ⊢
        rw [step_same _ _ _ (by omega) (by omega)] at ih
        rw [step_more _ _ _ _ _ hmore (by omega) (by omega), ih, List.append_assoc]
        rfl
theorem same04_self (a : List S60) (hl : a.length ≤ 1000000) : ∀ d i k, i + d = a.length → d < k → sennitref04_Same.l0 k a a (i : Int) = some true := by
  intro d
  induction d with
  | zero =>
    intro i k hi hk
    obtain ⟨k, rfl⟩ : ∃ q, k = q + 1 := ⟨k - 1, by omega⟩
    rw [sennitref04_Same.l0, if_neg (by omega)]
  | succ d ih =>
    intro i k hi hk
    obtain ⟨k, rfl⟩ : ∃ q, k = q + 1 := ⟨k - 1, by omega⟩
    rw [sennitref04_Same.l0, if_pos (by omega), if_pos (by omega), if_pos (by omega), if_neg (by simp), w1 (by omega)]
    exact ih (i + 1) k (by omega) (by omega)
theorem one_l0 (ch : List S60) (hch : ch.length ≤ 1000) (l : List S39) (hl : l.length ≤ 1000) (h1 : ∀ c ∈ l, c.f2.length = 1) : ∀ d i k (acc : List S60), i + d = l.length → 2000 + d < k → acc ++ chgL (l.drop i) = ch → sennitlaw05_AlignOne.l0 k true ch l acc (i : Int) = some true := by
  intro d
  induction d with
  | zero =>
    intro i k acc hi hk ha
    obtain ⟨k, rfl⟩ : ∃ q, k = q + 1 := ⟨k - 1, by omega⟩
    rw [List.drop_of_length_le (by omega), chgL, List.append_nil] at ha
    subst ha
    rw [sennitlaw05_AlignOne.l0, if_neg (by omega), if_pos rfl]
    unfold sennitref04_Same.f
    rw [if_pos rfl, show sennitref04_Same.l0 k acc acc 0 = some true from same04_self acc (by omega) acc.length 0 k (by omega) (by omega)]
    rfl
  | succ d ih =>
    intro i k acc hi hk ha
    obtain ⟨k, rfl⟩ : ∃ q, k = q + 1 := ⟨k - 1, by omega⟩
    have hlt : i < l.length := by omega
    have hd : l.drop i = l.getD i z39 :: l.drop (i + 1) := by rw [List.drop_eq_getElem_cons hlt, List.getD_eq_getElem?_getD, List.getElem?_eq_getElem hlt]; rfl
    have hc := h1 _ (getD_mem l z39 i hlt)
    rw [hd] at ha
    rw [sennitlaw05_AlignOne.l0, if_pos (by omega), if_pos (by omega), rd39, w1 (by omega)]
    generalize l.getD i z39 = c at ha hc
    cases hs : c.f0 with
    | true =>
      rw [chgL, if_pos hs] at ha
      rw [if_pos rfl]
      exact ih (i + 1) k acc (by omega) (by omega) ha
    | false =>
      rw [chgL, if_neg (by rw [hs]; decide)] at ha
      have hal : acc.length ≤ 1000 := by
        have := congrArg List.length ha
        rw [List.length_append] at this
        omega
      rw [if_neg (by decide), if_pos (by omega), if_pos (by omega), if_pos (by omega)]
      have hr : rd_T36 c.f2 0 = c.f2.getD 0 z36 := by simp [rd_T36]
      rw [hr]
      refine ih (i + 1) k _ (by omega) (by omega) ?_
      rw [List.append_assoc]
      exact ha
theorem chgL_len : ∀ l : List S39, (chgL l).length ≤ l.length
  | [] => Nat.le_refl _
  | c :: t => by
    have := chgL_len t
    rw [chgL]
    split <;> simp <;> omega
theorem one_fin (m0 : List Int) (n : Nat) (ct : List S39) (hm : m0.length ≤ 1000) (hn : n ≤ 1000) (hfit : Fits [m0] m0.length [(n : Int)] 0 (List.replicate [(n : Int)].length 0) none ct) : changesG m0 (n : Int) = chgL ct := by
  have hch := fits_chg m0 (n : Int) hm (by omega) ct 0 0 none [] hfit (Int.le_refl _)
  rw [List.drop_zero, List.nil_append] at hch
  exact hch
theorem rd_one (z : List Int) : rd_L1 [z] 0 = z := rfl
theorem matches_one (a y : List Int) : matchesF a [y] = [matchF a y] := by unfold matchesF; generalize matchF a = f; rfl
theorem rd_matches (a y : List Int) : rd_L1 (matchesF a [y]) 0 = matchF a y := by rw [matches_one, rd_one]
theorem one_len (l0 l1 : List Int) (hs : Small5 l0 [l1]) : ∀ c ∈ cutF l0 [l1], c.f2.length = 1 := fun c hc => (hs.ch c hc).len
theorem AlignOne (l0 : List Int) (n0 : l0.length ≤ 9223372036854775807) (o0 : ∀ x ∈ l0, (Lit.int .u8 x).wf = true) (l1 : List Int) (n1 : l1.length ≤ 9223372036854775807) (o1 : ∀ x ∈ l1, (Lit.int .u8 x).wf = true) : ∃ k, sennitlaw05_AlignOne.f k l0 l1 = some true := by
  obtain ⟨b, hb, hB⟩ := few_f l0 [l1] n0 (by simp) (fun y hy => by rw [List.mem_singleton.1 hy]; exact n1) 400000 (by omega)
  refine ⟨400000, ?_⟩
  unfold sennitlaw05_AlignOne.f
  rw [awake05 _ (by omega), Option.bind_some, Option.bind_some, hb, Option.bind_some]
  cases b with
  | false => rfl
  | true =>
    have hs := few_of (hB rfl)
    have hby : Bytes5 l0 [l1] := bytes_of o0 (fun y hy => by rw [List.mem_singleton.1 hy]; exact ⟨n1, o1⟩)
    have ha30 := hs.a30
    have hl30 := hs.y30 l1 (by simp)
    have hinv := (match_f l0 l1 (by omega) (by omega)).1
    have hmay := mayL_ok _ _ hinv.ok (matchF l0 l1).length 0 (-1) (by omega) (by omega) (.inl rfl)
    rw [List.drop_zero] at hmay
    have hml := hinv.len
    have hfit := hs.fits
    have e1 := matches_one l0 l1
    have e2 : sizesF [l1] = [(l1.length : Int)] := by simp only [sizesF, List.map_cons, List.map_nil]
    rw [if_pos rfl, ints_f l0 (by omega) hby.a _ (by omega), Option.bind_some, lists_f [l1] (by simp) (fun y hy => ⟨by rw [List.mem_singleton.1 hy]; omega, hby.l y hy⟩) _ (by omega), Option.bind_some, matches_f l0 [l1] (by omega) (by simp) (fun y hy => by rw [List.mem_singleton.1 hy]; omega) _ (by omega), Option.bind_some]
    have hrd := rd_matches l0 l1
    have hedit : edit_Changes.f 400000 (matchF l0 l1) (l1.length : Int) = some (changesG (matchF l0 l1) (l1.length : Int), 0) := by
      unfold edit_Changes.f
      rw [if_neg (by omega), if_pos hmay]
    rw [if_pos (by rw [matchesF_len]; simp), hrd, hedit, Option.bind_some, cut_f hs hby _ (by omega), Option.bind_some]
    rw [e1, e2, ← hml] at hfit
    have heq := one_fin (matchF l0 l1) l1.length (cutF l0 [l1]) (by omega) (by omega) hfit
    have hones := one_len l0 l1 hs
    have hlen := hs.len
    rw [heq]
    show sennitlaw05_AlignOne.l0 400000 true (chgL (cutF l0 [l1])) (cutF l0 [l1]) [] 0 = some true
    exact one_l0 _ (by have := chgL_len (cutF l0 [l1]); omega) _ (by omega) hones (cutF l0 [l1]).length 0 400000 [] (by omega) (by omega) (by rw [List.drop_zero, List.nil_append])
end Go.Proofs.Ytnebadlakmlkkaa.Pure
