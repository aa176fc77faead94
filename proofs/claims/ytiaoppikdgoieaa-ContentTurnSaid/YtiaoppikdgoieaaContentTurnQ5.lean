/- Texts of the claim ContentTurn, put together (part 5): By a program of this session: a Go function as a Lean function, and that the machine's call does what it says. Layer 6: the reference's parts, the awake function, the kinds. Plain Lean. The plain law of ContentTurn: what the printed functions answer is true. -/
import Derived.ArgAppend
import Derived.Below
import Derived.BigQuiet
import Derived.Deep.AppendLies
import Derived.Deep.CutBlock
import Derived.Deep.DeepCutAuto
import Derived.Deep.DrawnRows
import Derived.Deep.Draws
import Derived.Deep.LoopGhost
import Derived.Deep.OwnRows
import Derived.Deep.QuietTactic
import Derived.Deep.RegionHeld3
import Derived.KernelRfl
import Derived.Laws.BitsLemmas
import Derived.Laws.BytesArg
import Derived.Laws.IdiomCopy
import Derived.Laws.MakeOwn
import Derived.Laws.OwnMore
import Derived.Laws.Rows
import Derived.Laws.Slices
import Derived.Lib.AppendStr
import Derived.Lib.ConvBytes
import Derived.Maps.AppendAt
import Derived.OrdersHeld
import Derived.OwnWalk
import Derived.RowKit
import Derived.RowKit3
import Derived.Tactics
import Derived.Test.YtiaoppikdgoieaaProg
import Derived.Test.YtiaoppikdgoieaaWApart
import Derived.Test.YtiaoppikdgoieaaWArr
import Derived.Test.YtiaoppikdgoieaaWAt
import Derived.Test.YtiaoppikdgoieaaWEqStruct
import Derived.Test.YtiaoppikdgoieaaWFoot
import Derived.Test.YtiaoppikdgoieaaWFootNe
import Derived.Test.YtiaoppikdgoieaaWFour
import Derived.Test.YtiaoppikdgoieaaWGuard
import Derived.Test.YtiaoppikdgoieaaWInv
import Derived.Test.YtiaoppikdgoieaaWInvWords
import Derived.Test.YtiaoppikdgoieaaWKept
import Derived.Test.YtiaoppikdgoieaaWLast
import Derived.Test.YtiaoppikdgoieaaWMore
import Derived.Test.YtiaoppikdgoieaaWN
import Derived.Test.YtiaoppikdgoieaaWNEv
import Derived.Test.YtiaoppikdgoieaaWQPut
import Derived.Test.YtiaoppikdgoieaaWRepsOne
import Derived.Test.YtiaoppikdgoieaaWShare
import Derived.Test.YtiaoppikdgoieaaWTab
import Derived.Test.YtiaoppikdgoieaaWWords
import Derived.Test.YtiaoppikdgoieaaWZeros
import Derived.WalkKit
import Derived.WideLaws
import Derived.Test.YtiaoppikdgoieaaContentTurnQ4
namespace Go.Proofs.Ytiaoppikdgoieaa.M
open Go.RowKit Go.Proofs.YtiaoppikdgoieaaW.PrintWords Go.Proofs.YtiaoppikdgoieaaW.PrintLast Go.Proofs.YtiaoppikdgoieaaW.PrintMore Go.Proofs.Ytiaoppikdgoieaa.Hand
attribute [local go_sem] max2_int min2_int max_two min_two max_three min_three max_four min_four
set_option linter.unusedVariables false
set_option linter.unusedSimpArgs false

/-! ### sennitlaw06_ContentTurn: function 7 -/
def sennitlaw06_ContentTurn.j0 : Nat → List ByteArray → List (List ByteArray) → Int → Bool → Bool → Option (Bool)
  | 0, _, _, _, _, _ => none
  | k + 1, x0, x1, x2, x7, x21 => if x21 = true then (some x7) else (if (x1.length : Int) = 0 then (none) else ((some (([] : List (List ByteArray)) : List (List ByteArray))).bind fun y248 => (if 0 ≤ (Int.tmod (wrap64 (x2)) (x1.length : Int)) then (if (Int.tmod (wrap64 (x2)) (x1.length : Int)) ≤ (x1.length : Int) then ((some (x1.drop ((Int.tmod (wrap64 (x2)) (x1.length : Int)) : Int).toNat : List (List ByteArray))).bind fun y251 => (if y248.length + y251.length < 5864062014805 then ((some (y248 ++ y251 : List (List ByteArray))).bind fun y256 => ((some (x1.take ((Int.tmod (wrap64 (x2)) (x1.length : Int)) : Int).toNat : List (List ByteArray))).bind fun y259 => (if y256.length + y259.length < 5864062014805 then ((some (y256 ++ y259 : List (List ByteArray))).bind fun y264 => ((some (([] : List (List ByteArray)) : List (List ByteArray))).bind fun y267 => (if y267.length + x1.length < 5864062014805 then ((some (y267 ++ x1 : List (List ByteArray))).bind fun y270 => (if (Int.tmod (wrap64 (x2)) (x1.length : Int)) < (x1.length : Int) then ((some (([rd_L1 x1 (Int.tmod (wrap64 (x2)) (x1.length : Int)), x0] : List (List ByteArray)) : List (List ByteArray))).bind fun y274 => (if y270.length + y274.length < 5864062014805 then ((content_Differing.f k x0 x1).bind fun t280 => (if x7 = true then ((content_Kind.f k x0 y264).bind fun t283 => ((content_Kind.f k x0 x1).bind fun t284 => (if t283 = t284 then ((content_Differing.f k x0 y264).bind fun t285 => (if (t285.length : Int) = (t280.length : Int) then ((content_Differing.f k x0 (y270 ++ y274)).bind fun t288 => ((sennitref06_All.f k t288 t280).bind fun t291 => (some t291))) else (none))) else (none)))) else (none))) else (none))) else (none))) else (none)))) else (none)))) else (none))) else (none)) else (none))))
def sennitlaw06_ContentTurn.f (k : Nat) (l0 : List ByteArray) (l1 : List (List ByteArray)) (a2 : Int) : Option (Bool) := (sennitlaw06_awake.f k).bind fun t246 => ((sennitref06_Few.f k l0 l1).bind fun t247 => (if t247 = true then (sennitlaw06_ContentTurn.j0 k l0 l1 a2 t246 ((l1.length : Int) == 0)) else (sennitlaw06_ContentTurn.j0 k l0 l1 a2 t246 true)))
theorem sennitlaw06_ContentTurn.mono_l : ∀ k, (∀ y0 y1 y2 y3 y4, LeO (sennitlaw06_ContentTurn.j0 k y0 y1 y2 y3 y4) (sennitlaw06_ContentTurn.j0 (k + 1) y0 y1 y2 y3 y4))
  | 0 => fun _ _ _ _ _ r h => by simp [sennitlaw06_ContentTurn.j0] at h
  | k + 1 => by
    have ih0 := sennitlaw06_ContentTurn.mono_l k
    · intro y0 y1 y2 y3 y4
      unfold sennitlaw06_ContentTurn.j0
      repeat' first
      | (with_reducible exact ih0 _ _ _ _ _)
      | (with_reducible exact content_Differing.mono _ _ _)
      | (with_reducible exact content_Kind.mono _ _ _)
      | (with_reducible exact sennitlaw06_awake.mono _)
      | (with_reducible exact sennitref06_All.mono _ _ _)
      | (with_reducible exact sennitref06_Few.mono _ _ _)
      | (with_reducible exact LeO.refl _)
      | (with_reducible exact LeO.none _)
      | (with_reducible refine LeO.ite ?_ ?_)
      | (with_reducible refine LeO.bind ?_ (fun _ => ?_))
      | exact ih0 _ _ _ _ _
      | exact content_Differing.mono _ _ _
      | exact content_Kind.mono _ _ _
      | exact sennitlaw06_awake.mono _
      | exact sennitref06_All.mono _ _ _
      | exact sennitref06_Few.mono _ _ _
      | exact LeO.none _
      | refine LeO.ite ?_ ?_
      | refine LeO.bind ?_ (fun _ => ?_)
theorem sennitlaw06_ContentTurn.mono : ∀ a0 a1 a2 k, LeO (sennitlaw06_ContentTurn.f k a0 a1 a2) (sennitlaw06_ContentTurn.f (k + 1) a0 a1 a2) := by
  intro a0 a1 a2 k
  have ih0 := sennitlaw06_ContentTurn.mono_l k
  unfold sennitlaw06_ContentTurn.f
  repeat' first
      | (with_reducible exact ih0 _ _ _ _ _)
      | (with_reducible exact content_Differing.mono _ _ _)
      | (with_reducible exact content_Kind.mono _ _ _)
      | (with_reducible exact sennitlaw06_awake.mono _)
      | (with_reducible exact sennitref06_All.mono _ _ _)
      | (with_reducible exact sennitref06_Few.mono _ _ _)
      | (with_reducible exact LeO.refl _)
      | (with_reducible exact LeO.none _)
      | (with_reducible refine LeO.ite ?_ ?_)
      | (with_reducible refine LeO.bind ?_ (fun _ => ?_))
      | exact ih0 _ _ _ _ _
      | exact content_Differing.mono _ _ _
      | exact content_Kind.mono _ _ _
      | exact sennitlaw06_awake.mono _
      | exact sennitref06_All.mono _ _ _
      | exact sennitref06_Few.mono _ _ _
      | exact LeO.none _
      | refine LeO.ite ?_ ?_
      | refine LeO.bind ?_ (fun _ => ?_)
def sennitlaw06_ContentTurn.T5 : Bool × List (List Nat × List Nat) := (true, [([], []), ([], []), ([], []), ([1, 2], [1, 2]), ([0, 3], [0, 3]), ([], []), ([], []), ([5, 6], [5, 6]), ([4, 7, 4], [4, 7]), ([8, 8, 0, 1, 2, 3, 4, 5, 6, 7, 8], [8])])
def sennitlaw06_ContentTurn.B5 : List Nat := [0, 0, 0, 6, 15, 0, 0, 96, 255, 511]
theorem sennitlaw06_ContentTurn.tab5 : rtab .any (opsOf Try.f7 5) = sennitlaw06_ContentTurn.T5 := by kernel_rfl
theorem sennitlaw06_ContentTurn.bits5 : waitsOk sennitlaw06_ContentTurn.T5.2 sennitlaw06_ContentTurn.B5 = true := by kernel_rfl
def sennitlaw06_ContentTurn.T6 : Bool × List (List Nat × List Nat) := (true, [([], []), ([], []), ([0, 1], [0, 1]), ([], []), ([], []), ([3, 4], [3, 4]), ([5], [5]), ([], []), ([6, 7], [6, 7]), ([2, 8, 2], [2, 8]), ([9, 9, 0, 1, 2, 3, 4, 5, 6, 7, 8, 9], [9])])
def sennitlaw06_ContentTurn.B6 : List Nat := [0, 0, 3, 0, 0, 24, 56, 0, 248, 511, 1023]
theorem sennitlaw06_ContentTurn.tab6 : rtab .any (opsOf Try.f7 6) = sennitlaw06_ContentTurn.T6 := by kernel_rfl
theorem sennitlaw06_ContentTurn.bits6 : waitsOk sennitlaw06_ContentTurn.T6.2 sennitlaw06_ContentTurn.B6 = true := by kernel_rfl
set_option maxHeartbeats 8000000 in
set_option maxRecDepth 100000 in
theorem sennitlaw06_ContentTurn.calls (k : Nat) (P0_ : Nat → Prop) (A0 : Option Addr) (c0 : Nat) (l0 : List ByteArray) (P1_ : Nat → Prop) (A1 : Option Addr) (c1 : Nat) (l1 : List (List ByteArray)) (a2 : Int) (r : Bool) (w : World) (hs0 : Kd.V Kd.string 9 w w.heap.size (fun k_ => P0_ k_) (.slice A0 l0.length c0) l0) (hs1 : Kd.V (Kd.slice 9 Kd.string) 22 w w.heap.size (fun k_ => P1_ k_) (.slice A1 l1.length c1) l1) (h : sennitlaw06_ContentTurn.f k l0 l1 a2 = some r) :
    Calls Try.prog 7 #[.slice A0 l0.length c0, .slice A1 l1.length c1, .int .u8 a2] w fun e w' => e = .returned (.bool r) ∧ Below w.heap.size w w' := by
  have HO0 := am (show Kd.V Kd.string 9 w w.heap.size (fun k_ => ((P0_ k_ ∨ P1_ k_) ∨ w.heap.size ≤ k_)) (.slice A0 l0.length c0) l0 from Kd.V_mono hs0 (fun k_ hk => .inl (.inl hk)))
  have HO1 := am (show Kd.V (Kd.slice 9 Kd.string) 22 w w.heap.size (fun k_ => ((P0_ k_ ∨ P1_ k_) ∨ w.heap.size ≤ k_)) (.slice A1 l1.length c1) l1 from Kd.V_mono hs1 (fun k_ hk => .inl (.inr hk)))
  have HB := am (Below.refl w.heap.size w)
  have H : ((sennitlaw06_awake.f k).bind fun t246 => ((sennitref06_Few.f k l0 l1).bind fun t247 => (if t247 = true then (sennitlaw06_ContentTurn.j0 k l0 l1 a2 t246 ((l1.length : Int) == 0)) else (sennitlaw06_ContentTurn.j0 k l0 l1 a2 t246 true)))) = some r := h
  clear h
  replace H := Option.bind_eq_some_iff.mp H
  obtain ⟨t246, A40, H⟩ := H
  replace H : ((sennitref06_Few.f k l0 l1).bind fun t247 => (if t247 = true then (sennitlaw06_ContentTurn.j0 k l0 l1 a2 t246 ((l1.length : Int) == 0)) else (sennitlaw06_ContentTurn.j0 k l0 l1 a2 t246 true))) = some r := H
  have A4 := am A40
  clear A40
  have HC5 := am H
  clear H
  go_enter Try.func7, Try.ntmps7
  go_upto_region 2 with (first | ((with_reducible refine gate_callee (f := 25) rfl ?_); refine goesL_ (some 12) rfl rfl Try.func25 (by kernel_rfl) rfl #[] rfl (by (try simp only [List.map_toArray, List.map_cons, List.map_nil]); first | done | rfl | (simp only [List.length_drop, List.length_take]; rfl)) ?_; (with_reducible refine (sennitlaw06_awake.calls k  t246 _ A4.out).mono ?_); rintro e w6 ⟨rfl, hb⟩; refine ⟨_, rfl, ?_⟩; have n0_ := am (Kd.V_below (by (with_reducible repeat (first | apply vA | apply vN | apply vD)); exact HO0.out) hb); have n1_ := am (Kd.V_below (by (with_reducible repeat (first | apply vA | apply vN | apply vD)); exact HO1.out) hb); have n2_ := am (below_step (by repeat (with_reducible first | exact HB.out | apply bA | apply bN | apply bD)) hb); clear HO0; clear HO1; clear HB; have HO0 := n0_; have HO1 := n1_; have HB := n2_; clear n0_ n1_ n2_; (try clear hb); (try clear hb2); (try clear hk); (try clear hi)))
  (try simp only [Act.put, List.setIfInBounds_toArray, List.set_cons_zero, List.set_cons_succ])
  go_cut [21] (fun v21 wc => ∃ (kq : Nat) (x21_4 : Bool), v21 = .bool x21_4 ∧ Aside0 (sennitlaw06_ContentTurn.j0 kq l0 l1 a2 t246 x21_4 = some r) ∧ Aside0 (kq ≤ k) ∧ Aside0 (Kd.V Kd.string 9 wc w.heap.size (fun k_ => ((P0_ k_ ∨ P1_ k_) ∨ w.heap.size ≤ k_)) (.slice A0 l0.length c0) l0) ∧ Aside0 (Kd.V (Kd.slice 9 Kd.string) 22 wc w.heap.size (fun k_ => ((P0_ k_ ∨ P1_ k_) ∨ w.heap.size ≤ k_)) (.slice A1 l1.length c1) l1) ∧ Aside0 (Below w.heap.size w wc))
  case first =>
    have H := HC5.out
    clear HC5
    replace H := Option.bind_eq_some_iff.mp H
    obtain ⟨t247, A70, H⟩ := H
    replace H : (if t247 = true then (sennitlaw06_ContentTurn.j0 k l0 l1 a2 t246 ((l1.length : Int) == 0)) else (sennitlaw06_ContentTurn.j0 k l0 l1 a2 t246 true)) = some r := H
    have A7 := am A70
    clear A70
    by_cases c8 : t247 = true
    · subst c8
      have H1 : (sennitlaw06_ContentTurn.j0 k l0 l1 a2 t246 ((l1.length : Int) == 0)) = some r := by rw [if_pos rfl] at H; exact H
      clear H
      have H := H1
      clear H1
      have H' := am H
      clear H
      go_wp2_with (first | ((with_reducible refine gate_callee (f := 20) rfl ?_); refine goesL_ (some 15) rfl rfl Try.func20 (by kernel_rfl) rfl #[.slice A0 l0.length c0, .slice A1 l1.length c1] rfl (by (try simp only [List.map_toArray, List.map_cons, List.map_nil]); first | done | rfl | (simp only [List.length_drop, List.length_take]; rfl)) ?_; (with_reducible refine (sennitref06_Few.calls k _ _ l0 _ _ l1 true _ ?side1 ?side2 ?side3 ?side4 A7.out).mono ?_); (case side1 => repeat (first | exact (Kd.V_reads' HO0.out).2.2 | (with_reducible refine Kd.C_alloc ?_ _) | (with_reducible refine Kd.C_drewN ?_ _) | (with_reducible refine Kd.C_drew ?_))); (case side2 => exact (Kd.V_reads' HO0.out).2.1); (case side3 => repeat (first | exact (Kd.V_reads' HO1.out).2.2 | (with_reducible refine Kd.C_alloc ?_ _) | (with_reducible refine Kd.C_drewN ?_ _) | (with_reducible refine Kd.C_drew ?_))); (case side4 => exact (Kd.V_reads' HO1.out).2.1); rintro e w' ⟨rfl, ⟨nd, rfl⟩⟩; refine ⟨_, rfl, ?_⟩))
      go_meet
      case rel => exact ⟨_, (((l1.length : Int) == 0)), (by first | rfl | (simp; done) | (simp [*]; done)), H', ⟨by first | omega | exact Nat.le_refl _⟩, ⟨by (with_reducible repeat (first | apply vA | apply vN | apply vD)); exact HO0.out⟩, ⟨by (with_reducible repeat (first | apply vA | apply vN | apply vD)); exact HO1.out⟩, ⟨by repeat (with_reducible first | exact HB.out | apply bA | apply bN | apply bD)⟩⟩
    · replace c8 := Bool.eq_false_iff.mpr c8
      subst c8
      have H1 : (sennitlaw06_ContentTurn.j0 k l0 l1 a2 t246 true) = some r := by rw [if_neg (show ¬ (false = true) by decide)] at H; exact H
      clear H
      have H := H1
      clear H1
      have H' := am H
      clear H
      go_wp2_with (first | ((with_reducible refine gate_callee (f := 20) rfl ?_); refine goesL_ (some 15) rfl rfl Try.func20 (by kernel_rfl) rfl #[.slice A0 l0.length c0, .slice A1 l1.length c1] rfl (by (try simp only [List.map_toArray, List.map_cons, List.map_nil]); first | done | rfl | (simp only [List.length_drop, List.length_take]; rfl)) ?_; (with_reducible refine (sennitref06_Few.calls k _ _ l0 _ _ l1 false _ ?side1 ?side2 ?side3 ?side4 A7.out).mono ?_); (case side1 => repeat (first | exact (Kd.V_reads' HO0.out).2.2 | (with_reducible refine Kd.C_alloc ?_ _) | (with_reducible refine Kd.C_drewN ?_ _) | (with_reducible refine Kd.C_drew ?_))); (case side2 => exact (Kd.V_reads' HO0.out).2.1); (case side3 => repeat (first | exact (Kd.V_reads' HO1.out).2.2 | (with_reducible refine Kd.C_alloc ?_ _) | (with_reducible refine Kd.C_drewN ?_ _) | (with_reducible refine Kd.C_drew ?_))); (case side4 => exact (Kd.V_reads' HO1.out).2.1); rintro e w' ⟨rfl, ⟨nd, rfl⟩⟩; refine ⟨_, rfl, ?_⟩))
      go_meet
      case rel => exact ⟨_, (true), (by first | rfl | (simp; done) | (simp [*]; done)), H', ⟨by first | omega | exact Nat.le_refl _⟩, ⟨by (with_reducible repeat (first | apply vA | apply vN | apply vD)); exact HO0.out⟩, ⟨by (with_reducible repeat (first | apply vA | apply vN | apply vD)); exact HO1.out⟩, ⟨by repeat (with_reducible first | exact HB.out | apply bA | apply bN | apply bD)⟩⟩
  case rest =>
    clear HC5
    try clear c1
    try clear c2
    try clear p2
    try clear c7
    try clear c8
    obtain ⟨kq, x21_4, rfl, HA, HJ4, HO_0, HO_1, HB⟩ := hcut
    cases kq with
    | zero => exact absurd HA.out (by simp [sennitlaw06_ContentTurn.j0])
    | succ kj4 =>
      have H := HA.out
      clear HA
      simp only [sennitlaw06_ContentTurn.j0] at H
      by_cases c9 : x21_4 = true
      · subst c9
        have H1 : (some t246) = some r := by rw [if_pos rfl] at H; exact H
        clear H
        have H := H1
        clear H1
        obtain rfl := Option.some.inj H
        go_wp2
        go_ret
        exact ⟨by first | rfl | (simp [errW_none, errW_some] <;> rfl) | (simp [*, errW_none, errW_some] <;> rfl), by repeat (with_reducible first | exact HB.out | apply bA | apply bN | apply bD)⟩
      · replace c9 := Bool.eq_false_iff.mpr c9
        subst c9
        have H1 : (if (l1.length : Int) = 0 then (none) else ((some (([] : List (List ByteArray)) : List (List ByteArray))).bind fun y248 => (if 0 ≤ (Int.tmod (wrap64 (a2)) (l1.length : Int)) then (if (Int.tmod (wrap64 (a2)) (l1.length : Int)) ≤ (l1.length : Int) then ((some (l1.drop ((Int.tmod (wrap64 (a2)) (l1.length : Int)) : Int).toNat : List (List ByteArray))).bind fun y251 => (if y248.length + y251.length < 5864062014805 then ((some (y248 ++ y251 : List (List ByteArray))).bind fun y256 => ((some (l1.take ((Int.tmod (wrap64 (a2)) (l1.length : Int)) : Int).toNat : List (List ByteArray))).bind fun y259 => (if y256.length + y259.length < 5864062014805 then ((some (y256 ++ y259 : List (List ByteArray))).bind fun y264 => ((some (([] : List (List ByteArray)) : List (List ByteArray))).bind fun y267 => (if y267.length + l1.length < 5864062014805 then ((some (y267 ++ l1 : List (List ByteArray))).bind fun y270 => (if (Int.tmod (wrap64 (a2)) (l1.length : Int)) < (l1.length : Int) then ((some (([rd_L1 l1 (Int.tmod (wrap64 (a2)) (l1.length : Int)), l0] : List (List ByteArray)) : List (List ByteArray))).bind fun y274 => (if y270.length + y274.length < 5864062014805 then ((content_Differing.f kj4 l0 l1).bind fun t280 => (if t246 = true then ((content_Kind.f kj4 l0 y264).bind fun t283 => ((content_Kind.f kj4 l0 l1).bind fun t284 => (if t283 = t284 then ((content_Differing.f kj4 l0 y264).bind fun t285 => (if (t285.length : Int) = (t280.length : Int) then ((content_Differing.f kj4 l0 (y270 ++ y274)).bind fun t288 => ((sennitref06_All.f kj4 t288 t280).bind fun t291 => (some t291))) else (none))) else (none)))) else (none))) else (none))) else (none))) else (none)))) else (none)))) else (none))) else (none)) else (none)))) = some r := by rw [if_neg (show ¬ (false = true) by decide)] at H; exact H
        clear H
        have H := H1
        clear H1
        by_cases c10 : (l1.length : Int) = 0
        · rw [if_pos c10] at H
          exact absurd H (by simp)
        · rw [if_neg c10] at H
          have c10b0 : ((l1.length : Int) == 0) = false := beq_eq_false_iff_ne.mpr c10
          have c10b1 : ((l1.length : Int) != 0) = true := bne_iff_ne.mpr c10
          have c10b2 : ¬ (l1 = []) := fun h_ => c10 (by rw [h_]; rfl)
          obtain ⟨y248, hy248⟩ : ∃ y_ : List (List ByteArray), y_ = (([] : List (List ByteArray))) := ⟨_, rfl⟩
          replace H : (if 0 ≤ (Int.tmod (wrap64 (a2)) (l1.length : Int)) then (if (Int.tmod (wrap64 (a2)) (l1.length : Int)) ≤ (l1.length : Int) then ((some (l1.drop ((Int.tmod (wrap64 (a2)) (l1.length : Int)) : Int).toNat : List (List ByteArray))).bind fun y251 => (if y248.length + y251.length < 5864062014805 then ((some (y248 ++ y251 : List (List ByteArray))).bind fun y256 => ((some (l1.take ((Int.tmod (wrap64 (a2)) (l1.length : Int)) : Int).toNat : List (List ByteArray))).bind fun y259 => (if y256.length + y259.length < 5864062014805 then ((some (y256 ++ y259 : List (List ByteArray))).bind fun y264 => ((some (([] : List (List ByteArray)) : List (List ByteArray))).bind fun y267 => (if y267.length + l1.length < 5864062014805 then ((some (y267 ++ l1 : List (List ByteArray))).bind fun y270 => (if (Int.tmod (wrap64 (a2)) (l1.length : Int)) < (l1.length : Int) then ((some (([rd_L1 l1 (Int.tmod (wrap64 (a2)) (l1.length : Int)), l0] : List (List ByteArray)) : List (List ByteArray))).bind fun y274 => (if y270.length + y274.length < 5864062014805 then ((content_Differing.f kj4 l0 l1).bind fun t280 => (if t246 = true then ((content_Kind.f kj4 l0 y264).bind fun t283 => ((content_Kind.f kj4 l0 l1).bind fun t284 => (if t283 = t284 then ((content_Differing.f kj4 l0 y264).bind fun t285 => (if (t285.length : Int) = (t280.length : Int) then ((content_Differing.f kj4 l0 (y270 ++ y274)).bind fun t288 => ((sennitref06_All.f kj4 t288 t280).bind fun t291 => (some t291))) else (none))) else (none)))) else (none))) else (none))) else (none))) else (none)))) else (none)))) else (none))) else (none)) else (none)) = some r := by first | (rw [hy248]; with_reducible exact H) | (have H2_ := (Option.bind_some _ _).symm.trans H; rw [hy248]; with_reducible exact H2_) | (have H2_ := (Option.bind_some _ _).symm.trans H; with_reducible exact H2_) | with_reducible exact H | (rw [hy248]; exact H) | exact H
          have Ny248 := am hy248
          clear hy248
          obtain ⟨ji11, hji11⟩ : ∃ j_ : Int, (Int.tmod (wrap64 (a2)) (l1.length : Int)) = j_ := ⟨_, rfl⟩
          replace H : (if 0 ≤ (ji11) then (if (ji11) ≤ (l1.length : Int) then ((some (l1.drop ((ji11) : Int).toNat : List (List ByteArray))).bind fun y251 => (if y248.length + y251.length < 5864062014805 then ((some (y248 ++ y251 : List (List ByteArray))).bind fun y256 => ((some (l1.take ((ji11) : Int).toNat : List (List ByteArray))).bind fun y259 => (if y256.length + y259.length < 5864062014805 then ((some (y256 ++ y259 : List (List ByteArray))).bind fun y264 => ((some (([] : List (List ByteArray)) : List (List ByteArray))).bind fun y267 => (if y267.length + l1.length < 5864062014805 then ((some (y267 ++ l1 : List (List ByteArray))).bind fun y270 => (if (ji11) < (l1.length : Int) then ((some (([rd_L1 l1 (ji11), l0] : List (List ByteArray)) : List (List ByteArray))).bind fun y274 => (if y270.length + y274.length < 5864062014805 then ((content_Differing.f kj4 l0 l1).bind fun t280 => (if t246 = true then ((content_Kind.f kj4 l0 y264).bind fun t283 => ((content_Kind.f kj4 l0 l1).bind fun t284 => (if t283 = t284 then ((content_Differing.f kj4 l0 y264).bind fun t285 => (if (t285.length : Int) = (t280.length : Int) then ((content_Differing.f kj4 l0 (y270 ++ y274)).bind fun t288 => ((sennitref06_All.f kj4 t288 t280).bind fun t291 => (some t291))) else (none))) else (none)))) else (none))) else (none))) else (none))) else (none)))) else (none)))) else (none))) else (none)) else (none)) = some r := by first | (rw [hji11] at H; exact H) | (simp only [hji11] at H ⊢; exact H)
          by_cases c12 : 0 ≤ (ji11)
          · rw [if_pos c12] at H
            have c12b0 := eq_true c12
            have c12b1 : decide (0 ≤ (ji11)) = true := decide_eq_true c12
            clear c12
            by_cases c13 : (ji11) ≤ (l1.length : Int)
            · rw [if_pos c13] at H
              have c13b0 := eq_true c13
              have c13b1 : decide ((ji11) ≤ (l1.length : Int)) = true := decide_eq_true c13
              clear c13
              obtain ⟨y251, hy251⟩ : ∃ y_ : List (List ByteArray), y_ = (l1.drop ((ji11) : Int).toNat) := ⟨_, rfl⟩
              replace H : (if y248.length + y251.length < 5864062014805 then ((some (y248 ++ y251 : List (List ByteArray))).bind fun y256 => ((some (l1.take ((ji11) : Int).toNat : List (List ByteArray))).bind fun y259 => (if y256.length + y259.length < 5864062014805 then ((some (y256 ++ y259 : List (List ByteArray))).bind fun y264 => ((some (([] : List (List ByteArray)) : List (List ByteArray))).bind fun y267 => (if y267.length + l1.length < 5864062014805 then ((some (y267 ++ l1 : List (List ByteArray))).bind fun y270 => (if (ji11) < (l1.length : Int) then ((some (([rd_L1 l1 (ji11), l0] : List (List ByteArray)) : List (List ByteArray))).bind fun y274 => (if y270.length + y274.length < 5864062014805 then ((content_Differing.f kj4 l0 l1).bind fun t280 => (if t246 = true then ((content_Kind.f kj4 l0 y264).bind fun t283 => ((content_Kind.f kj4 l0 l1).bind fun t284 => (if t283 = t284 then ((content_Differing.f kj4 l0 y264).bind fun t285 => (if (t285.length : Int) = (t280.length : Int) then ((content_Differing.f kj4 l0 (y270 ++ y274)).bind fun t288 => ((sennitref06_All.f kj4 t288 t280).bind fun t291 => (some t291))) else (none))) else (none)))) else (none))) else (none))) else (none))) else (none)))) else (none)))) else (none)) = some r := by first | (rw [hy251]; with_reducible exact H) | (have H2_ := (Option.bind_some _ _).symm.trans H; rw [hy251]; with_reducible exact H2_) | (have H2_ := (Option.bind_some _ _).symm.trans H; with_reducible exact H2_) | with_reducible exact H | (rw [hy251]; exact H) | exact H
              have Ny251 := am hy251
              clear hy251
              by_cases c14 : y248.length + y251.length < 5864062014805
              · rw [if_pos c14] at H
                have LMc14 := am c14
                clear c14
                obtain ⟨y256, hy256⟩ : ∃ y_ : List (List ByteArray), y_ = (y248 ++ y251) := ⟨_, rfl⟩
                replace H : ((some (l1.take ((ji11) : Int).toNat : List (List ByteArray))).bind fun y259 => (if y256.length + y259.length < 5864062014805 then ((some (y256 ++ y259 : List (List ByteArray))).bind fun y264 => ((some (([] : List (List ByteArray)) : List (List ByteArray))).bind fun y267 => (if y267.length + l1.length < 5864062014805 then ((some (y267 ++ l1 : List (List ByteArray))).bind fun y270 => (if (ji11) < (l1.length : Int) then ((some (([rd_L1 l1 (ji11), l0] : List (List ByteArray)) : List (List ByteArray))).bind fun y274 => (if y270.length + y274.length < 5864062014805 then ((content_Differing.f kj4 l0 l1).bind fun t280 => (if t246 = true then ((content_Kind.f kj4 l0 y264).bind fun t283 => ((content_Kind.f kj4 l0 l1).bind fun t284 => (if t283 = t284 then ((content_Differing.f kj4 l0 y264).bind fun t285 => (if (t285.length : Int) = (t280.length : Int) then ((content_Differing.f kj4 l0 (y270 ++ y274)).bind fun t288 => ((sennitref06_All.f kj4 t288 t280).bind fun t291 => (some t291))) else (none))) else (none)))) else (none))) else (none))) else (none))) else (none)))) else (none))) = some r := by first | (rw [hy256]; with_reducible exact H) | (have H2_ := (Option.bind_some _ _).symm.trans H; rw [hy256]; with_reducible exact H2_) | (have H2_ := (Option.bind_some _ _).symm.trans H; with_reducible exact H2_) | with_reducible exact H | (rw [hy256]; exact H) | exact H
                have Ny256 := am hy256
                clear hy256
                have c15b0 := eq_true (of_decide_eq_true (by first | (with_reducible assumption) | assumption) : 0 ≤ (ji11))
                have c16b0 := eq_true (of_decide_eq_true (by first | (with_reducible assumption) | assumption) : (ji11) ≤ (l1.length : Int))
                obtain ⟨y259, hy259⟩ : ∃ y_ : List (List ByteArray), y_ = (l1.take ((ji11) : Int).toNat) := ⟨_, rfl⟩
                replace H : (if y256.length + y259.length < 5864062014805 then ((some (y256 ++ y259 : List (List ByteArray))).bind fun y264 => ((some (([] : List (List ByteArray)) : List (List ByteArray))).bind fun y267 => (if y267.length + l1.length < 5864062014805 then ((some (y267 ++ l1 : List (List ByteArray))).bind fun y270 => (if (ji11) < (l1.length : Int) then ((some (([rd_L1 l1 (ji11), l0] : List (List ByteArray)) : List (List ByteArray))).bind fun y274 => (if y270.length + y274.length < 5864062014805 then ((content_Differing.f kj4 l0 l1).bind fun t280 => (if t246 = true then ((content_Kind.f kj4 l0 y264).bind fun t283 => ((content_Kind.f kj4 l0 l1).bind fun t284 => (if t283 = t284 then ((content_Differing.f kj4 l0 y264).bind fun t285 => (if (t285.length : Int) = (t280.length : Int) then ((content_Differing.f kj4 l0 (y270 ++ y274)).bind fun t288 => ((sennitref06_All.f kj4 t288 t280).bind fun t291 => (some t291))) else (none))) else (none)))) else (none))) else (none))) else (none))) else (none)))) else (none)) = some r := by first | (rw [hy259]; with_reducible exact H) | (have H2_ := (Option.bind_some _ _).symm.trans H; rw [hy259]; with_reducible exact H2_) | (have H2_ := (Option.bind_some _ _).symm.trans H; with_reducible exact H2_) | with_reducible exact H | (rw [hy259]; exact H) | exact H
                have Ny259 := am hy259
                clear hy259
                by_cases c17 : y256.length + y259.length < 5864062014805
                · rw [if_pos c17] at H
                  have LMc17 := am c17
                  clear c17
                  obtain ⟨y264, hy264⟩ : ∃ y_ : List (List ByteArray), y_ = (y256 ++ y259) := ⟨_, rfl⟩
                  replace H : ((some (([] : List (List ByteArray)) : List (List ByteArray))).bind fun y267 => (if y267.length + l1.length < 5864062014805 then ((some (y267 ++ l1 : List (List ByteArray))).bind fun y270 => (if (ji11) < (l1.length : Int) then ((some (([rd_L1 l1 (ji11), l0] : List (List ByteArray)) : List (List ByteArray))).bind fun y274 => (if y270.length + y274.length < 5864062014805 then ((content_Differing.f kj4 l0 l1).bind fun t280 => (if t246 = true then ((content_Kind.f kj4 l0 y264).bind fun t283 => ((content_Kind.f kj4 l0 l1).bind fun t284 => (if t283 = t284 then ((content_Differing.f kj4 l0 y264).bind fun t285 => (if (t285.length : Int) = (t280.length : Int) then ((content_Differing.f kj4 l0 (y270 ++ y274)).bind fun t288 => ((sennitref06_All.f kj4 t288 t280).bind fun t291 => (some t291))) else (none))) else (none)))) else (none))) else (none))) else (none))) else (none))) = some r := by first | (rw [hy264]; with_reducible exact H) | (have H2_ := (Option.bind_some _ _).symm.trans H; rw [hy264]; with_reducible exact H2_) | (have H2_ := (Option.bind_some _ _).symm.trans H; with_reducible exact H2_) | with_reducible exact H | (rw [hy264]; exact H) | exact H
                  have Ny264 := am hy264
                  clear hy264
                  obtain ⟨y267, hy267⟩ : ∃ y_ : List (List ByteArray), y_ = (([] : List (List ByteArray))) := ⟨_, rfl⟩
                  replace H : (if y267.length + l1.length < 5864062014805 then ((some (y267 ++ l1 : List (List ByteArray))).bind fun y270 => (if (ji11) < (l1.length : Int) then ((some (([rd_L1 l1 (ji11), l0] : List (List ByteArray)) : List (List ByteArray))).bind fun y274 => (if y270.length + y274.length < 5864062014805 then ((content_Differing.f kj4 l0 l1).bind fun t280 => (if t246 = true then ((content_Kind.f kj4 l0 y264).bind fun t283 => ((content_Kind.f kj4 l0 l1).bind fun t284 => (if t283 = t284 then ((content_Differing.f kj4 l0 y264).bind fun t285 => (if (t285.length : Int) = (t280.length : Int) then ((content_Differing.f kj4 l0 (y270 ++ y274)).bind fun t288 => ((sennitref06_All.f kj4 t288 t280).bind fun t291 => (some t291))) else (none))) else (none)))) else (none))) else (none))) else (none))) else (none)) = some r := by first | (rw [hy267]; with_reducible exact H) | (have H2_ := (Option.bind_some _ _).symm.trans H; rw [hy267]; with_reducible exact H2_) | (have H2_ := (Option.bind_some _ _).symm.trans H; with_reducible exact H2_) | with_reducible exact H | (rw [hy267]; exact H) | exact H
                  have Ny267 := am hy267
                  clear hy267
                  by_cases c18 : y267.length + l1.length < 5864062014805
                  · rw [if_pos c18] at H
                    have LMc18 := am c18
                    clear c18
                    obtain ⟨y270, hy270⟩ : ∃ y_ : List (List ByteArray), y_ = (y267 ++ l1) := ⟨_, rfl⟩
                    replace H : (if (ji11) < (l1.length : Int) then ((some (([rd_L1 l1 (ji11), l0] : List (List ByteArray)) : List (List ByteArray))).bind fun y274 => (if y270.length + y274.length < 5864062014805 then ((content_Differing.f kj4 l0 l1).bind fun t280 => (if t246 = true then ((content_Kind.f kj4 l0 y264).bind fun t283 => ((content_Kind.f kj4 l0 l1).bind fun t284 => (if t283 = t284 then ((content_Differing.f kj4 l0 y264).bind fun t285 => (if (t285.length : Int) = (t280.length : Int) then ((content_Differing.f kj4 l0 (y270 ++ y274)).bind fun t288 => ((sennitref06_All.f kj4 t288 t280).bind fun t291 => (some t291))) else (none))) else (none)))) else (none))) else (none))) else (none)) = some r := by first | (rw [hy270]; with_reducible exact H) | (have H2_ := (Option.bind_some _ _).symm.trans H; rw [hy270]; with_reducible exact H2_) | (have H2_ := (Option.bind_some _ _).symm.trans H; with_reducible exact H2_) | with_reducible exact H | (rw [hy270]; exact H) | exact H
                    have Ny270 := am hy270
                    clear hy270
                    by_cases c19 : (ji11) < (l1.length : Int)
                    · rw [if_pos c19] at H
                      have c19b0 : decide ((ji11) < (l1.length : Int)) = true := decide_eq_true c19
                      clear c19
                      obtain ⟨y274, hy274⟩ : ∃ y_ : List (List ByteArray), y_ = (([rd_L1 l1 (ji11), l0] : List (List ByteArray))) := ⟨_, rfl⟩
                      replace H : (if y270.length + y274.length < 5864062014805 then ((content_Differing.f kj4 l0 l1).bind fun t280 => (if t246 = true then ((content_Kind.f kj4 l0 y264).bind fun t283 => ((content_Kind.f kj4 l0 l1).bind fun t284 => (if t283 = t284 then ((content_Differing.f kj4 l0 y264).bind fun t285 => (if (t285.length : Int) = (t280.length : Int) then ((content_Differing.f kj4 l0 (y270 ++ y274)).bind fun t288 => ((sennitref06_All.f kj4 t288 t280).bind fun t291 => (some t291))) else (none))) else (none)))) else (none))) else (none)) = some r := by first | (rw [hy274]; with_reducible exact H) | (have H2_ := (Option.bind_some _ _).symm.trans H; rw [hy274]; with_reducible exact H2_) | (have H2_ := (Option.bind_some _ _).symm.trans H; with_reducible exact H2_) | with_reducible exact H | (rw [hy274]; exact H) | exact H
                      have Ny274 := am hy274
                      clear hy274
                      by_cases c20 : y270.length + y274.length < 5864062014805
                      · rw [if_pos c20] at H
                        have LMc20 := am c20
                        clear c20
                        obtain ⟨y277, hy277⟩ : ∃ y_ : List (List ByteArray), y_ = (y270 ++ y274) := ⟨_, rfl⟩
                        replace H : ((content_Differing.f kj4 l0 l1).bind fun t280 => (if t246 = true then ((content_Kind.f kj4 l0 y264).bind fun t283 => ((content_Kind.f kj4 l0 l1).bind fun t284 => (if t283 = t284 then ((content_Differing.f kj4 l0 y264).bind fun t285 => (if (t285.length : Int) = (t280.length : Int) then ((content_Differing.f kj4 l0 y277).bind fun t288 => ((sennitref06_All.f kj4 t288 t280).bind fun t291 => (some t291))) else (none))) else (none)))) else (none))) = some r := by first | (rw [hy277]; with_reducible exact H) | (have H2_ := (Option.bind_some _ _).symm.trans H; rw [hy277]; with_reducible exact H2_) | (have H2_ := (Option.bind_some _ _).symm.trans H; with_reducible exact H2_) | with_reducible exact H | (rw [hy277]; exact H) | exact H
                        have Ny277 := am hy277
                        clear hy277
                        replace H := Option.bind_eq_some_iff.mp H
                        obtain ⟨t280, A210, H⟩ := H
                        replace H : (if t246 = true then ((content_Kind.f kj4 l0 y264).bind fun t283 => ((content_Kind.f kj4 l0 l1).bind fun t284 => (if t283 = t284 then ((content_Differing.f kj4 l0 y264).bind fun t285 => (if (t285.length : Int) = (t280.length : Int) then ((content_Differing.f kj4 l0 y277).bind fun t288 => ((sennitref06_All.f kj4 t288 t280).bind fun t291 => (some t291))) else (none))) else (none)))) else (none)) = some r := H
                        have A21 := am A210
                        clear A210
                        by_cases c22 : t246 = true
                        · subst c22
                          have H1 : ((content_Kind.f kj4 l0 y264).bind fun t283 => ((content_Kind.f kj4 l0 l1).bind fun t284 => (if t283 = t284 then ((content_Differing.f kj4 l0 y264).bind fun t285 => (if (t285.length : Int) = (t280.length : Int) then ((content_Differing.f kj4 l0 y277).bind fun t288 => ((sennitref06_All.f kj4 t288 t280).bind fun t291 => (some t291))) else (none))) else (none)))) = some r := by rw [if_pos rfl] at H; exact H
                          clear H
                          have H := H1
                          clear H1
                          replace H := Option.bind_eq_some_iff.mp H
                          obtain ⟨t283, A230, H⟩ := H
                          replace H : ((content_Kind.f kj4 l0 l1).bind fun t284 => (if t283 = t284 then ((content_Differing.f kj4 l0 y264).bind fun t285 => (if (t285.length : Int) = (t280.length : Int) then ((content_Differing.f kj4 l0 y277).bind fun t288 => ((sennitref06_All.f kj4 t288 t280).bind fun t291 => (some t291))) else (none))) else (none))) = some r := H
                          have A23 := am A230
                          clear A230
                          replace H := Option.bind_eq_some_iff.mp H
                          obtain ⟨t284, A240, H⟩ := H
                          replace H : (if t283 = t284 then ((content_Differing.f kj4 l0 y264).bind fun t285 => (if (t285.length : Int) = (t280.length : Int) then ((content_Differing.f kj4 l0 y277).bind fun t288 => ((sennitref06_All.f kj4 t288 t280).bind fun t291 => (some t291))) else (none))) else (none)) = some r := H
                          have A24 := am A240
                          clear A240
                          by_cases c25 : t283 = t284
                          · rw [if_pos c25] at H
                            have c25b0 : (t283 == t284) = true := beq_iff_eq.mpr c25
                            have c25b1 : (t283 != t284) = false := bne_eq_false_iff_eq.mpr c25
                            clear c25
                            replace H := Option.bind_eq_some_iff.mp H
                            obtain ⟨t285, A260, H⟩ := H
                            replace H : (if (t285.length : Int) = (t280.length : Int) then ((content_Differing.f kj4 l0 y277).bind fun t288 => ((sennitref06_All.f kj4 t288 t280).bind fun t291 => (some t291))) else (none)) = some r := H
                            have A26 := am A260
                            clear A260
                            by_cases c27 : (t285.length : Int) = (t280.length : Int)
                            · rw [if_pos c27] at H
                              have c27b0 : ((t285.length : Int) == (t280.length : Int)) = true := beq_iff_eq.mpr c27
                              have c27b1 : ((t285.length : Int) != (t280.length : Int)) = false := bne_eq_false_iff_eq.mpr c27
                              have c27b2 : (t285.length == t280.length) = true := by first | simpa using c27 | (simp at c27 ⊢; omega)
                              clear c27
                              replace H := Option.bind_eq_some_iff.mp H
                              obtain ⟨t288, A280, H⟩ := H
                              replace H : ((sennitref06_All.f kj4 t288 t280).bind fun t291 => (some t291)) = some r := H
                              have A28 := am A280
                              clear A280
                              replace H := Option.bind_eq_some_iff.mp H
                              obtain ⟨t291, A290, H⟩ := H
                              replace H : (some t291) = some r := H
                              have A29 := am A290
                              clear A290
                              obtain rfl := Option.some.inj H
                              try go_wp2
                              have n0_ := am (Kd.V_drew HO_0.out)
                              have n1_ := am (Kd.V_drew HO_1.out)
                              have n2_ := am (below_drew1 HB.out)
                              clear HO_0
                              clear HO_1
                              clear HB
                              have HO_0 := n0_
                              have HO_1 := n1_
                              have HB := n2_
                              clear n0_ n1_ n2_
                              have q31 : ((ji11) : Int) ≤ ((l1.length : Int) : Int) := of_decide_eq_true (by first | (with_reducible assumption) | assumption)
                              obtain ⟨i031, hi031, _, hsz31, _⟩ := info_parts info22
                              have hroom31 : l1.length ≤ c1 := (Kd.V_reads' HO_1.out).2.1
                              have hC31 : Kd.F (Kd.slice 9 Kd.string) _ _ A1 l1.length l1 := (Kd.V_at (base := w.heap.size) HO_1.out).2.2
                              have q031 : (0 : Int) ≤ ((ji11) : Int) := of_decide_eq_true (by first | (with_reducible assumption) | assumption)
                              have hcut31 := cut_from (P := Try.prog) 23 22 .i64 Try.underlying23 hi031 1 hsz31 A1 l1.length c1 (ji11) q031 q31
                              have hr31 := Kd.F_cut (m := ((ji11) : Int).toNat) (c := c1) hC31 (by omega) hroom31
                              obtain ⟨A31, hA31⟩ : ∃ A1x_, A1x_ = (if c1 = ((ji11) : Int).toNat then A1 else (A1 : Option Addr).map (·.add (((ji11) : Int).toNat * 1))) := ⟨_, rfl⟩
                              obtain ⟨c31, hc31⟩ : ∃ c1x_, c1x_ = c1 - ((ji11) : Int).toNat := ⟨_, rfl⟩
                              have hy31 : y251.length = l1.length - ((ji11) : Int).toNat := (by rw [Ny251.out, List.length_drop] <;> omega)
                              rw [show (l1).drop ((ji11) : Int).toNat = y251 from Ny251.out.symm] at hr31
                              replace hr31 : Kd.F (Kd.slice 9 Kd.string) _ _ A31 y251.length y251 := (by rw [hA31]; exact hr31)
                              rw [← hy31, ← hA31, ← hc31] at hcut31
                              have HO255 := am (show Kd.V (Kd.slice 9 Kd.string) 22 _ w.heap.size _ (.slice A31 y251.length c31) y251 from Kd.V_mk (by rw [hy31, hc31]; exact Nat.sub_le_sub_right hroom31 _) hr31)
                              have HC255 := am (show y251.length ≤ c31 from by rw [hy31, hc31]; exact Nat.sub_le_sub_right hroom31 _)
                              clear hr31 hC31 hroom31 hi031 hsz31 hc31
                              have KY31 := am hy31
                              have KA31 := am hA31
                              clear hy31 hA31
                              replace q31 := eq_true q31
                              have q32 : ((ji11) : Int) ≤ ((l1.length : Int) : Int) := of_decide_eq_true (by first | (with_reducible assumption) | assumption)
                              obtain ⟨i032, hi032, _, hsz32, _⟩ := info_parts info22
                              have hroom32 : l1.length ≤ c1 := (Kd.V_reads' HO_1.out).2.1
                              have hC32 : Kd.F (Kd.slice 9 Kd.string) _ _ A1 l1.length l1 := (Kd.V_at (base := w.heap.size) HO_1.out).2.2
                              have hcut32 := cut_to (P := Try.prog) 23 22 .i64 Try.underlying23 hi032 A1 l1.length c1 (ji11) (of_decide_eq_true (by first | (with_reducible assumption) | assumption)) q32 hroom32
                              have hr32 := Kd.F_take (m := ((ji11) : Int).toNat) hC32 (by omega)
                              have hy32 : y259.length = ((ji11) : Int).toNat := (by rw [Ny259.out, List.length_take]; omega)
                              rw [← Ny259.out] at hr32
                              rw [← hy32] at hcut32
                              have HO263 := am (show Kd.V (Kd.slice 9 Kd.string) 22 _ w.heap.size _ (.slice A1 y259.length c1) y259 from Kd.V_mk (by omega) hr32)
                              have HC263 := am (show y259.length ≤ c1 from by omega)
                              clear hr32 hC32 hroom32 hi032 hsz32
                              have KY32 := am hy32
                              clear hy32
                              replace q32 := eq_true q32
                              refine start_ (n := 10) (S := fun w' => True) (ds := []) #[false, false, false, false, false, false, false, false, false, false] (by kernel_rfl) rfl rfl trivial (fun hHeld => ?_); refine with_tabW sennitlaw06_ContentTurn.tab5 sennitlaw06_ContentTurn.bits5 (fun HT_ HW_ => ?_)
                              generalize wc.drew = w30 at HO_0 HO_1 HB HO255 HO263 hHeld ⊢
                              refine pure_ (i := 1) (N := some 29) (v := ?_) (a' := ?_) #[false, true, false, false, false, false, false, false, false, false] rfl rfl (any_of HT_.out (by kernel_rfl)) (fun _ _ _ h => h) (Or.inl ⟨by rfl, ?_⟩) ?_ ?_
                              rotate_left
                              · intro w'
                                go_simp
                                with_reducible rfl
                              rotate_left
                              · simp only [Act.put, List.setIfInBounds_toArray, List.set_cons_zero, List.set_cons_succ, i64_w, i32_w]
                                rfl
                              refine pure_ (i := 2) (N := some 30) (v := ?_) (a' := ?_) #[false, true, true, false, false, false, false, false, false, false] rfl rfl (any_of HT_.out (by kernel_rfl)) (fun _ _ _ h => h) (Or.inl ⟨by rfl, ?_⟩) ?_ ?_
                              rotate_left
                              · intro w'
                                go_simp
                                with_reducible rfl
                              rotate_left
                              · simp only [Act.put, List.setIfInBounds_toArray, List.set_cons_zero, List.set_cons_succ, i64_w, i32_w]
                                rfl
                              refine pure_ (i := 3) (N := some 31) (v := ?_) (a' := ?_) #[false, true, true, true, false, false, false, false, false, false] rfl rfl (any_of HT_.out (by kernel_rfl)) (fun _ _ _ h => h) (Or.inl ⟨by rfl, ?_⟩) ?_ ?_
                              rotate_left
                              · intro w'
                                go_simp
                                with_reducible rfl
                              rotate_left
                              · simp only [Act.put, List.setIfInBounds_toArray, List.set_cons_zero, List.set_cons_succ, i64_w, i32_w]
                                rfl
                              refine pure_ (i := 5) (N := some 33) (v := ?_) (a' := ?_) #[false, true, true, true, false, true, false, false, false, false] rfl rfl (any_of HT_.out (by kernel_rfl)) (fun _ _ _ h => h) (Or.inl ⟨by rfl, ?_⟩) ?_ ?_
                              rotate_left
                              · intro w'
                                go_simp
                                with_reducible rfl
                              rotate_left
                              · simp only [Act.put, List.setIfInBounds_toArray, List.set_cons_zero, List.set_cons_succ, i64_w, i32_w]
                                rfl
                              refine pure_ (i := 6) (N := some 34) (v := ?_) (a' := ?_) #[false, true, true, true, false, true, true, false, false, false] rfl rfl (any_of HT_.out (by kernel_rfl)) (fun _ _ _ h => h) (Or.inl ⟨by rfl, ?_⟩) ?_ ?_
                              rotate_left
                              · intro w'
                                go_simp
                                with_reducible rfl
                              rotate_left
                              · simp only [Act.put, List.setIfInBounds_toArray, List.set_cons_zero, List.set_cons_succ, i64_w, i32_w]
                                rfl
                              refine pure_ (i := 7) (N := some 35) (v := ?_) (a' := ?_) #[false, true, true, true, false, true, true, true, false, false] rfl rfl (any_of HT_.out (by kernel_rfl)) (fun _ _ _ h => h) (Or.inl ⟨by rfl, ?_⟩) ?_ ?_
                              rotate_left
                              · intro w'
                                go_simp
                                with_reducible rfl
                              rotate_left
                              · simp only [Act.put, List.setIfInBounds_toArray, List.set_cons_zero, List.set_cons_succ, i64_w, i32_w]
                                rfl
                              refine one_ (i := 0) (N := some 28) #[true, true, true, true, false, true, true, true, false, false] rfl rfl (one_of HT_.out (by kernel_rfl)) (by decide) (fun K hK => ?_)
                              refine Kd.N_lit_step (Kd.slice 9 Kd.string) _ 22 ?hg (N' := 28) ?hd (xs := ([] : List (List ByteArray))) (inner := []) (ok := (fun k_ => ((P0_ k_ ∨ P1_ k_) ∨ w.heap.size ≤ k_))) (okp := (fun k_ => ((P0_ k_ ∨ P1_ k_) ∨ w.heap.size ≤ k_))) ?hr ?hp (fun _ hk => hk) ((show ∀ k_, w30.heap.size ≤ k_ → (fun k_ => ((P0_ k_ ∨ P1_ k_) ∨ w.heap.size ≤ k_)) k_ from fun k_ hk => (.inr (Nat.le_trans (below_size (by repeat (with_reducible first | exact HB.out | apply bA | apply bN | apply bD))) hk))) _ (Nat.le_refl _)) (Below.refl _ _) (Nat.le_refl _) (by simp) ?_; (case hd => rfl); (case hg => rfl); (case hr => first | (go_simp; done) | (go_simp; rfl)); (case hp => exact (Reps.none _ _))
                              intro v249 w33 ho34 hb hg_ hnew_
                              clear hg_ hnew_
                              rw [← Ny248.out] at ho34
                              have n0_ := am (Kd.V_elder' (by (with_reducible repeat (first | apply vA | apply vN | apply vD)); exact HO_0.out) (Kd.N_base ho34) hb)
                              have n1_ := am (Kd.V_elder' (by (with_reducible repeat (first | apply vA | apply vN | apply vD)); exact HO_1.out) (Kd.N_base ho34) hb)
                              have n2_ := am (Kd.V_elder' (by (with_reducible repeat (first | apply vA | apply vN | apply vD)); exact HO255.out) (Kd.N_base ho34) hb)
                              have n3_ := am (Kd.V_elder' (by (with_reducible repeat (first | apply vA | apply vN | apply vD)); exact HO263.out) (Kd.N_base ho34) hb)
                              have n4_ := am (Kd.N_lower ho34 (below_size (by repeat (with_reducible first | exact HB.out | apply bA | apply bN | apply bD))))
                              have n5_ := am (below_step (by repeat (with_reducible first | exact HB.out | apply bA | apply bN | apply bD)) hb)
                              clear HO_0
                              clear HO_1
                              clear HO255
                              clear HO263
                              clear HB
                              have HO_0 := n0_
                              have HO_1 := n1_
                              have HO255 := n2_
                              have HO263 := n3_
                              have HO250 := n4_
                              have HB := n5_
                              clear n0_ n1_ n2_ n3_ n4_ n5_
                              clear hb ho34
                              refine hK.out _ _ trivial (fun hHeld => ?_)
                              clear hK K
                              refine norm_ (a' := ?_) ?_ ?_
                              rotate_left
                              · show Act.put _ (some 28) _ = _
                                simp only [Act.put, List.setIfInBounds_toArray, List.set_cons_zero, List.set_cons_succ, i64_w, i32_w]
                                rfl
                              refine one_ (i := 4) (N := some 32) #[true, true, true, true, true, true, true, true, false, false] rfl rfl (one_of HT_.out (by kernel_rfl)) (by decide) (fun K hK => ?_)
                              refine Kd.N_append_rows_step (Kd.slice 9 Kd.string) (w0 := w) w.heap.size (by rfl) (.tmp 28) (.tmp 31) 23 22 (.slice none 0 0) 24 rfl Try.underlying23 info22 rfl (by decide) (by omega) v249 y248 y251 _ _ _ (fun k_ => ((P0_ k_ ∨ P1_ k_) ∨ w.heap.size ≤ k_)) (fun k_ => ((fun k_ => ((P0_ k_ ∨ P1_ k_) ∨ w.heap.size ≤ k_))) k_ ∧ some k_ ≠ (v249 : Value).ownBlock) rfl rfl ?aO ?aR (fun _ hk => hk) ?aF ?aB ?aS ?aL ?_
                              (case aR => exact (by skip; exact Kd.V_F (Kd.V_mono (ok' := (fun k_ => ((fun k_ => ((P0_ k_ ∨ P1_ k_) ∨ w.heap.size ≤ k_))) k_ ∧ some k_ ≠ (v249 : Value).ownBlock)) (HO255.out) (fun k_ hk => ⟨hk.1, hk.2⟩))))
                              (case aB => exact (by repeat (with_reducible first | exact HB.out | apply bA | apply bN | apply bD)))
                              (case aF => exact (fun k_ hk => (.inr (Nat.le_trans (below_size (by repeat (with_reducible first | exact HB.out | apply bA | apply bN | apply bD))) hk))))
                              (case aO => exact (by (with_reducible repeat (first | apply nA | apply nN | apply nD)); exact HO250.out))
                              (case aS => exact (below_size (by repeat (with_reducible first | exact HB.out | apply bA | apply bN | apply bD))))
                              (case aL => have := LMc14.out; omega)
                              intro v257 w35 ho hb hg hat
                              rw [← Ny256.out] at ho
                              have n0_ := am (Kd.V_afterv (ok := (fun k_ => ((P0_ k_ ∨ P1_ k_) ∨ w.heap.size ≤ k_))) (by (with_reducible repeat (first | apply vA | apply vN | apply vD)); exact HO_0.out) hg hat)
                              have n1_ := am (Kd.V_afterv (ok := (fun k_ => ((P0_ k_ ∨ P1_ k_) ∨ w.heap.size ≤ k_))) (by (with_reducible repeat (first | apply vA | apply vN | apply vD)); exact HO_1.out) hg hat)
                              have n2_ := am (Kd.V_afterv (ok := (fun k_ => ((P0_ k_ ∨ P1_ k_) ∨ w.heap.size ≤ k_))) (by (with_reducible repeat (first | apply vA | apply vN | apply vD)); exact HO255.out) hg hat)
                              have n3_ := am (Kd.V_afterv (ok := (fun k_ => ((P0_ k_ ∨ P1_ k_) ∨ w.heap.size ≤ k_))) (by (with_reducible repeat (first | apply vA | apply vN | apply vD)); exact HO263.out) hg hat)
                              have n4_ := am (hb)
                              have n5_ := am (ho)
                              clear HO_0
                              clear HO_1
                              clear HO255
                              clear HO263
                              clear HB
                              clear HO250
                              have HO_0 := n0_
                              have HO_1 := n1_
                              have HO255 := n2_
                              have HO263 := n3_
                              have HB := n4_
                              have HO258 := n5_
                              clear n0_ n1_ n2_ n3_ n4_ n5_
                              clear ho hb hg hat
                              refine hK.out _ _ trivial (fun hHeld => ?_)
                              clear hK K
                              refine norm_ (a' := ?_) ?_ ?_
                              rotate_left
                              · show Act.put _ (some 32) _ = _
                                simp only [Act.put, List.setIfInBounds_toArray, List.set_cons_zero, List.set_cons_succ, i64_w, i32_w]
                                rfl
                              refine one_ (i := 8) (N := some 36) #[true, true, true, true, true, true, true, true, true, false] rfl rfl (one_of HT_.out (by kernel_rfl)) (by decide) (fun K hK => ?_)
                              refine Kd.N_append_rows_step (Kd.slice 9 Kd.string) (w0 := w) w.heap.size (by rfl) (.tmp 32) (.tmp 35) 23 22 (.slice none 0 0) 24 rfl Try.underlying23 info22 rfl (by decide) (by omega) v257 y256 y259 _ _ _ (fun k_ => ((P0_ k_ ∨ P1_ k_) ∨ w.heap.size ≤ k_)) (fun k_ => ((fun k_ => ((P0_ k_ ∨ P1_ k_) ∨ w.heap.size ≤ k_))) k_ ∧ some k_ ≠ (v257 : Value).ownBlock) rfl rfl ?aO ?aR (fun _ hk => hk) ?aF ?aB ?aS ?aL ?_
                              (case aR => exact (by skip; exact Kd.V_F (Kd.V_mono (ok' := (fun k_ => ((fun k_ => ((P0_ k_ ∨ P1_ k_) ∨ w.heap.size ≤ k_))) k_ ∧ some k_ ≠ (v257 : Value).ownBlock)) (HO263.out) (fun k_ hk => ⟨hk.1, hk.2⟩))))
                              (case aB => exact (by repeat (with_reducible first | exact HB.out | apply bA | apply bN | apply bD)))
                              (case aF => exact (fun k_ hk => (.inr (Nat.le_trans (below_size (by repeat (with_reducible first | exact HB.out | apply bA | apply bN | apply bD))) hk))))
                              (case aO => exact (by (with_reducible repeat (first | apply nA | apply nN | apply nD)); exact HO258.out))
                              (case aS => exact (below_size (by repeat (with_reducible first | exact HB.out | apply bA | apply bN | apply bD))))
                              (case aL => have := LMc17.out; omega)
                              intro v265 w36 ho hb hg hat
                              rw [← Ny264.out] at ho
                              have n0_ := am (Kd.V_afterv (ok := (fun k_ => ((P0_ k_ ∨ P1_ k_) ∨ w.heap.size ≤ k_))) (by (with_reducible repeat (first | apply vA | apply vN | apply vD)); exact HO_0.out) hg hat)
                              have n1_ := am (Kd.V_afterv (ok := (fun k_ => ((P0_ k_ ∨ P1_ k_) ∨ w.heap.size ≤ k_))) (by (with_reducible repeat (first | apply vA | apply vN | apply vD)); exact HO_1.out) hg hat)
                              have n2_ := am (Kd.V_afterv (ok := (fun k_ => ((P0_ k_ ∨ P1_ k_) ∨ w.heap.size ≤ k_))) (by (with_reducible repeat (first | apply vA | apply vN | apply vD)); exact HO255.out) hg hat)
                              have n3_ := am (Kd.V_afterv (ok := (fun k_ => ((P0_ k_ ∨ P1_ k_) ∨ w.heap.size ≤ k_))) (by (with_reducible repeat (first | apply vA | apply vN | apply vD)); exact HO263.out) hg hat)
                              have n4_ := am (hb)
                              have n5_ := am (ho)
                              clear HO_0
                              clear HO_1
                              clear HO255
                              clear HO263
                              clear HB
                              clear HO258
                              have HO_0 := n0_
                              have HO_1 := n1_
                              have HO255 := n2_
                              have HO263 := n3_
                              have HB := n4_
                              have HO266 := n5_
                              clear n0_ n1_ n2_ n3_ n4_ n5_
                              clear ho hb hg hat
                              refine hK.out _ _ trivial (fun hHeld => ?_)
                              clear hK K
                              refine norm_ (a' := ?_) ?_ ?_
                              rotate_left
                              · show Act.put _ (some 36) _ = _
                                simp only [Act.put, List.setIfInBounds_toArray, List.set_cons_zero, List.set_cons_succ, i64_w, i32_w]
                                rfl
                              refine pure_ (i := 9) (N := some 9) (v := ?_) (a' := ?_) #[true, true, true, true, true, true, true, true, true, true] rfl rfl (any_of HT_.out (by kernel_rfl)) (fun _ _ _ h => h) (Or.inl ⟨by rfl, ?_⟩) ?_ ?_
                              rotate_left
                              · intro w'
                                go_simp
                                with_reducible rfl
                              rotate_left
                              · simp only [Act.put, List.setIfInBounds_toArray, List.set_cons_zero, List.set_cons_succ, i64_w, i32_w]
                                rfl
                              refine done_ (done_of HT_.out (by kernel_rfl)) ?_
                              try go_wp2
                              have n0_ := am (Kd.V_drew HO_0.out)
                              have n1_ := am (Kd.V_drew HO_1.out)
                              have n2_ := am (Kd.V_drew HO255.out)
                              have n3_ := am (Kd.V_drew HO263.out)
                              have n4_ := am (Kd.N_drew HO266.out)
                              have n5_ := am (below_drew1 HB.out)
                              clear HO_0
                              clear HO_1
                              clear HO255
                              clear HO263
                              clear HO266
                              clear HB
                              have HO_0 := n0_
                              have HO_1 := n1_
                              have HO255 := n2_
                              have HO263 := n3_
                              have HO266 := n4_
                              have HB := n5_
                              clear n0_ n1_ n2_ n3_ n4_ n5_
                              have p273 : 0 ≤ ((ji11) : Int) := of_decide_eq_true (by first | (with_reducible assumption) | assumption)
                              have q273 : (ji11) < (l1.length : Int) := of_decide_eq_true (by first | (with_reducible assumption) | assumption)
                              obtain ⟨ad273, A273_0, c273_0, e273, hx273_0, hl273_0, hi273_0⟩ := at_L1 (Kd.V_reads' HO_1.out).2.2 (ji11) p273 q273
                              cases e273
                              obtain ⟨ce273, hce273, hMe273, hcc273⟩ := Kd.V_get HO_1.out [] (ji11) p273 (by first | exact q273 | exact of_decide_eq_true (by first | (with_reducible assumption) | assumption) | (have e_ := (Kd.V_reads' HO_1.out).1; omega))
                              obtain ⟨ua273_0, uc273_0, rfl, ul273_0, ge273_0⟩ := Kd.FK_slice_open hMe273
                              have hv273_0 := hcc273 0 _ rfl
                              rw [Nat.add_zero, show ((Kd.slice 9 Kd.string)).sz = 1 from rfl, Nat.mul_one] at hv273_0
                              replace hv273_0 := Option.some.inj (hv273_0.symm.trans hx273_0)
                              injection hv273_0 with hva_ hvn_ hvc_
                              rw [hva_] at ge273_0
                              rw [hvc_] at ul273_0
                              have HL273_0 := am (show Kd.V Kd.string 9 _ w.heap.size _ _ (rd_L1 l1 (ji11)) from Kd.V_mk ul273_0 ge273_0)
                              clear hva_ hvn_ hvc_ ge273_0 ul273_0
                              clear hcc273 hce273
                              have HR273_0 := am hi273_0
                              have HC273_0 := am hl273_0
                              clear hi273_0 hl273_0
                              replace p273 := eq_true p273
                              replace q273 := eq_true q273
                              refine start_ (n := 11) (S := fun w' => w'.cell? (ad273.add ((ji11)).toNat) = some (.slice A273_0 (rd_L1 l1 (ji11)).length c273_0)) (ds := []) #[false, false, false, false, false, false, false, false, false, false, false] (by kernel_rfl) rfl rfl (hx273_0) (fun hHeld => ?_); refine with_tabW sennitlaw06_ContentTurn.tab6 sennitlaw06_ContentTurn.bits6 (fun HT_ HW_ => ?_)
                              generalize w36.drew = w37 at HO_0 HO_1 HO255 HO263 HO266 HB HL273_0 HR273_0 hx273_0 hHeld ⊢
                              refine pure_ (i := 1) (N := some 38) (v := ?_) (a' := ?_) #[false, true, false, false, false, false, false, false, false, false, false] rfl rfl (any_of HT_.out (by kernel_rfl)) (fun _ _ _ h => h) (Or.inl ⟨by rfl, ?_⟩) ?_ ?_
                              rotate_left
                              · intro w'
                                go_simp
                                with_reducible rfl
                              rotate_left
                              · simp only [Act.put, List.setIfInBounds_toArray, List.set_cons_zero, List.set_cons_succ, i64_w, i32_w]
                                rfl
                              refine pure_ (i := 3) (N := some 40) (v := ?_) (a' := ?_) #[false, true, false, true, false, false, false, false, false, false, false] rfl rfl (any_of HT_.out (by kernel_rfl)) (fun _ _ _ h => h) (Or.inl ⟨by rfl, ?_⟩) ?_ ?_
                              rotate_left
                              · intro w'
                                go_simp
                                with_reducible rfl
                              rotate_left
                              · simp only [Act.put, List.setIfInBounds_toArray, List.set_cons_zero, List.set_cons_succ, i64_w, i32_w]
                                rfl
                              refine pure_ (i := 4) (N := some 41) (v := ?_) (a' := ?_) #[false, true, false, true, true, false, false, false, false, false, false] rfl rfl (any_of HT_.out (by kernel_rfl)) (fun _ _ _ h => h) (Or.inl ⟨by rfl, ?_⟩) ?_ ?_
                              rotate_left
                              · intro w'
                                go_simp
                                with_reducible rfl
                              rotate_left
                              · simp only [Act.put, List.setIfInBounds_toArray, List.set_cons_zero, List.set_cons_succ, i64_w, i32_w]
                                rfl
                              refine pure_ (i := 5) (N := some 42) (v := ?_) (a' := ?_) #[false, true, false, true, true, true, false, false, false, false, false] rfl rfl (any_of HT_.out (by kernel_rfl)) (fun _ _ _ h => h) (Or.inl ⟨by rfl, ?_⟩) ?_ ?_
                              rotate_left
                              · intro w'
                                go_simp
                                with_reducible rfl
                              rotate_left
                              · simp only [Act.put, List.setIfInBounds_toArray, List.set_cons_zero, List.set_cons_succ, i64_w, i32_w]
                                rfl
                              refine pure_ (i := 7) (N := some 44) (v := ?_) (a' := ?_) #[false, true, false, true, true, true, false, true, false, false, false] rfl rfl (any_of HT_.out (by kernel_rfl)) (fun _ _ _ h => h) (Or.inl ⟨by rfl, ?_⟩) ?_ ?_
                              rotate_left
                              · intro w'
                                go_simp
                                with_reducible rfl
                              rotate_left
                              · simp only [Act.put, List.setIfInBounds_toArray, List.set_cons_zero, List.set_cons_succ, i64_w, i32_w]
                                rfl
                              refine take_ (i := 6) (N := some 43) (v := ?_) (a' := ?_) #[false, true, false, true, true, true, true, true, false, false, false] rfl rfl (take_ofW HT_.out HW_.out (by kernel_rfl)) (fun _ _ _ h => h) (Or.inl ⟨by rfl, ?_⟩) hHeld ?_ ?_
                              rotate_left
                              · intro w' s0
                                go_simp
                                with_reducible rfl
                              rotate_left
                              · simp only [Act.put, List.setIfInBounds_toArray, List.set_cons_zero, List.set_cons_succ, i64_w, i32_w]
                                rfl
                              refine join_ (σ := Value × Value × Value) 2 #[true, true, true, true, true, true, true, true, true, false, false] (fun s_ => [(37, s_.1), (39, s_.2.1), (45, s_.2.2)]) (fun s_ w' => (w'.cell? (ad273.add ((ji11)).toNat) = some (.slice A273_0 (rd_L1 l1 (ji11)).length c273_0)) ∧ (Kd.V Kd.string 9 w' w.heap.size (fun k_ => ((P0_ k_ ∨ P1_ k_) ∨ w.heap.size ≤ k_) ∧ some k_ ≠ (v265 : Value).ownBlock ∧ some k_ ≠ (s_.2.1 : Value).ownBlock ∧ some k_ ≠ (s_.2.2 : Value).ownBlock) (.slice A273_0 (rd_L1 l1 (ji11)).length c273_0) (rd_L1 l1 (ji11))) ∧ (Kd.V (Kd.slice 9 Kd.string) 22 w' w.heap.size (fun k_ => ((P0_ k_ ∨ P1_ k_) ∨ w.heap.size ≤ k_) ∧ some k_ ≠ (v265 : Value).ownBlock ∧ some k_ ≠ (s_.2.1 : Value).ownBlock ∧ some k_ ≠ (s_.2.2 : Value).ownBlock) (.slice A31 y251.length c31) y251) ∧ (Kd.V (Kd.slice 9 Kd.string) 22 w' w.heap.size (fun k_ => ((P0_ k_ ∨ P1_ k_) ∨ w.heap.size ≤ k_) ∧ some k_ ≠ (v265 : Value).ownBlock ∧ some k_ ≠ (s_.2.1 : Value).ownBlock ∧ some k_ ≠ (s_.2.2 : Value).ownBlock) (.slice (some ad273) y259.length c1) y259) ∧ (Kd.N (Kd.slice 9 Kd.string) 22 w' w.heap.size (fun k_ => ((P0_ k_ ∨ P1_ k_) ∨ w.heap.size ≤ k_) ∧ some k_ ≠ (s_.2.1 : Value).ownBlock ∧ some k_ ≠ (s_.2.2 : Value).ownBlock) v265 y264) ∧ (Kd.N (Kd.slice 9 Kd.string) 22 w' w.heap.size (fun k_ => ((P0_ k_ ∨ P1_ k_) ∨ w.heap.size ≤ k_) ∧ some k_ ≠ (v265 : Value).ownBlock ∧ some k_ ≠ (s_.2.2 : Value).ownBlock) s_.2.1 y270) ∧ (Kd.N (Kd.slice 9 Kd.string) 22 w' w.heap.size (fun k_ => ((P0_ k_ ∨ P1_ k_) ∨ w.heap.size ≤ k_) ∧ some k_ ≠ (v265 : Value).ownBlock ∧ some k_ ≠ (s_.2.1 : Value).ownBlock) s_.2.2 y274) ∧ (Kd.V Kd.string 9 w' w.heap.size (fun k_ => ((P0_ k_ ∨ P1_ k_) ∨ w.heap.size ≤ k_) ∧ some k_ ≠ (v265 : Value).ownBlock ∧ some k_ ≠ (s_.2.1 : Value).ownBlock ∧ some k_ ≠ (s_.2.2 : Value).ownBlock) (.slice A0 l0.length c0) l0) ∧ (Kd.V (Kd.slice 9 Kd.string) 22 w' w.heap.size (fun k_ => ((P0_ k_ ∨ P1_ k_) ∨ w.heap.size ≤ k_) ∧ some k_ ≠ (v265 : Value).ownBlock ∧ some k_ ≠ (s_.2.1 : Value).ownBlock ∧ some k_ ≠ (s_.2.2 : Value).ownBlock) (.slice (some ad273) l1.length c1) l1) ∧ (Below w.heap.size w w')) ?_ ?_
                              rotate_left
                              · intro hCont
                                refine two_ (i := 0) (j := 8) (Ni := some 37) (Nj := some 45) #[true, true, false, true, true, true, true, true, false, false, false] #[false, true, false, true, true, true, true, true, true, false, false] rfl rfl rfl rfl (two_of HT_.out (by kernel_rfl)) (by decide) (by decide) (fun K hK => ?_) (fun K hK => ?_)
                                · skip
                                  refine Kd.N_lit_step (Kd.slice 9 Kd.string) _ 22 ?hg (N' := 37) ?hd (xs := ([] : List (List ByteArray))) (inner := []) (ok := (fun k_ => ((P0_ k_ ∨ P1_ k_) ∨ w.heap.size ≤ k_) ∧ some k_ ≠ (v265 : Value).ownBlock)) (okp := (fun k_ => ((P0_ k_ ∨ P1_ k_) ∨ w.heap.size ≤ k_) ∧ some k_ ≠ (v265 : Value).ownBlock)) ?hr ?hp (fun _ hk => hk) ((show ∀ k_, w37.heap.size ≤ k_ → (fun k_ => ((P0_ k_ ∨ P1_ k_) ∨ w.heap.size ≤ k_) ∧ some k_ ≠ (v265 : Value).ownBlock) k_ from fun k_ hk => ⟨(.inr (Nat.le_trans (below_size (by repeat (with_reducible first | exact HB.out | apply bA | apply bN | apply bD))) hk)), Kd.fresh' (Kd.N_lt (by (with_reducible repeat (first | apply nA | apply nN | apply nD)); exact HO266.out)) k_ hk⟩) _ (Nat.le_refl _)) (Below.refl _ _) (Nat.le_refl _) (by simp) ?_; (case hd => rfl); (case hg => rfl); (case hr => first | (go_simp; done) | (go_simp; rfl)); (case hp => exact (Reps.none _ _))
                                  intro v268 w38 ho39 hb hg_ hnew_
                                  have HS0_ := (hb.cell (World.block_lt_of_cell? _ _ (hHeld))).trans (hHeld)
                                  clear hg_ hnew_
                                  rw [← Ny267.out] at ho39
                                  have n0_ := am (Kd.V_elder' (by (with_reducible repeat (first | apply vA | apply vN | apply vD)); exact HO_0.out) (Kd.N_base ho39) hb)
                                  have n1_ := am (Kd.V_elder' (by (with_reducible repeat (first | apply vA | apply vN | apply vD)); exact HO_1.out) (Kd.N_base ho39) hb)
                                  have n2_ := am (Kd.V_elder' (by (with_reducible repeat (first | apply vA | apply vN | apply vD)); exact HO255.out) (Kd.N_base ho39) hb)
                                  have n3_ := am (Kd.V_elder' (by (with_reducible repeat (first | apply vA | apply vN | apply vD)); exact HO263.out) (Kd.N_base ho39) hb)
                                  have n4_ := am (Kd.N_elder' (by (with_reducible repeat (first | apply nA | apply nN | apply nD)); exact HO266.out) (Kd.N_base ho39) hb)
                                  have n5_ := am (Kd.V_elder' (by (with_reducible repeat (first | apply vA | apply vN | apply vD)); exact HL273_0.out) (Kd.N_base ho39) hb)
                                  have n6_ := am (Kd.N_lower ho39 (below_size (by repeat (with_reducible first | exact HB.out | apply bA | apply bN | apply bD))))
                                  have n7_ := am (Kd.C_below (by repeat (first | (with_reducible exact HR273_0.out) | (with_reducible refine Kd.C_alloc ?_ _) | (with_reducible refine Kd.C_drewN ?_ _) | (with_reducible refine Kd.C_drew ?_) | exact HR273_0.out)) hb)
                                  have n8_ := am (below_step (by repeat (with_reducible first | exact HB.out | apply bA | apply bN | apply bD)) hb)
                                  clear HO_0
                                  clear HO_1
                                  clear HO255
                                  clear HO263
                                  clear HO266
                                  clear HL273_0
                                  clear HR273_0
                                  clear HB
                                  have HO_0 := n0_
                                  have HO_1 := n1_
                                  have HO255 := n2_
                                  have HO263 := n3_
                                  have HO266 := n4_
                                  have HL273_0 := n5_
                                  have HO269 := n6_
                                  have HR273_0 := n7_
                                  have HB := n8_
                                  clear n0_ n1_ n2_ n3_ n4_ n5_ n6_ n7_ n8_
                                  clear hb ho39
                                  refine hK.out _ _ (HS0_) (fun hHeld => ?_)
                                  clear hK K
                                  refine norm_ (a' := ?_) ?_ ?_
                                  rotate_left
                                  · show Act.put _ (some 37) _ = _
                                    simp only [Act.put, List.setIfInBounds_toArray, List.set_cons_zero, List.set_cons_succ, i64_w, i32_w]
                                    rfl
                                  refine two_ (i := 2) (j := 8) (Ni := some 39) (Nj := some 45) #[true, true, true, true, true, true, true, true, false, false, false] #[true, true, false, true, true, true, true, true, true, false, false] rfl rfl rfl rfl (two_of HT_.out (by kernel_rfl)) (by decide) (by decide) (fun K hK => ?_) (fun K hK => ?_)
                                  · skip
                                    refine Kd.N_append_rows_step (Kd.slice 9 Kd.string) (w0 := w) w.heap.size (by rfl) (.tmp 37) (.tmp 38) 23 22 (.slice none 0 0) 24 rfl Try.underlying23 info22 rfl (by decide) (by omega) v268 y267 l1 _ _ _ (fun k_ => ((P0_ k_ ∨ P1_ k_) ∨ w.heap.size ≤ k_) ∧ some k_ ≠ (v265 : Value).ownBlock) (fun k_ => ((fun k_ => ((P0_ k_ ∨ P1_ k_) ∨ w.heap.size ≤ k_) ∧ some k_ ≠ (v265 : Value).ownBlock)) k_ ∧ some k_ ≠ (v268 : Value).ownBlock) rfl rfl ?aO ?aR (fun _ hk => hk) ?aF ?aB ?aS ?aL ?_
                                    (case aR => exact (by skip; exact Kd.V_F (Kd.V_mono (ok' := (fun k_ => ((fun k_ => ((P0_ k_ ∨ P1_ k_) ∨ w.heap.size ≤ k_) ∧ some k_ ≠ (v265 : Value).ownBlock)) k_ ∧ some k_ ≠ (v268 : Value).ownBlock)) (HO_1.out) (fun k_ hk => ⟨⟨hk.1.1, hk.1.2⟩, hk.2⟩))))
                                    (case aB => exact (by repeat (with_reducible first | exact HB.out | apply bA | apply bN | apply bD)))
                                    (case aF => exact (fun k_ hk => ⟨(.inr (Nat.le_trans (below_size (by repeat (with_reducible first | exact HB.out | apply bA | apply bN | apply bD))) hk)), Kd.fresh' (Kd.N_lt (by (with_reducible repeat (first | apply nA | apply nN | apply nD)); exact HO266.out)) k_ hk⟩))
                                    (case aO => exact (by (with_reducible repeat (first | apply nA | apply nN | apply nD)); exact HO269.out))
                                    (case aS => exact (below_size (by repeat (with_reducible first | exact HB.out | apply bA | apply bN | apply bD))))
                                    (case aL => have := LMc18.out; omega)
                                    intro v271 w40 ho hb hg hat
                                    have HS0_ := cell_grown hg (hHeld) (fun e_ => by obtain ⟨ad_, A_, c_, ee_, hx_, _, _⟩ := at_L1 (Kd.V_reads' hs1).2.2 _ (of_eq_true p273) (of_eq_true q273); cases ee_; exact absurd (World.block_lt_of_cell? _ _ hx_) (Nat.not_lt.mpr (Kd.N_base HO269.out _ e_.symm)))
                                    rw [← Ny270.out] at ho
                                    have n0_ := am (Kd.V_afterv (ok := (fun k_ => ((P0_ k_ ∨ P1_ k_) ∨ w.heap.size ≤ k_) ∧ some k_ ≠ (v265 : Value).ownBlock)) (by (with_reducible repeat (first | apply vA | apply vN | apply vD)); exact HO_0.out) hg hat)
                                    have n1_ := am (Kd.V_afterv (ok := (fun k_ => ((P0_ k_ ∨ P1_ k_) ∨ w.heap.size ≤ k_) ∧ some k_ ≠ (v265 : Value).ownBlock)) (by (with_reducible repeat (first | apply vA | apply vN | apply vD)); exact HO_1.out) hg hat)
                                    have n2_ := am (Kd.V_afterv (ok := (fun k_ => ((P0_ k_ ∨ P1_ k_) ∨ w.heap.size ≤ k_) ∧ some k_ ≠ (v265 : Value).ownBlock)) (by (with_reducible repeat (first | apply vA | apply vN | apply vD)); exact HO255.out) hg hat)
                                    have n3_ := am (Kd.V_afterv (ok := (fun k_ => ((P0_ k_ ∨ P1_ k_) ∨ w.heap.size ≤ k_) ∧ some k_ ≠ (v265 : Value).ownBlock)) (by (with_reducible repeat (first | apply vA | apply vN | apply vD)); exact HO263.out) hg hat)
                                    have n4_ := am (Kd.N_afterv (ok := (fun k_ => ((P0_ k_ ∨ P1_ k_) ∨ w.heap.size ≤ k_))) (by (with_reducible repeat (first | apply nA | apply nN | apply nD)); exact HO266.out) hg hat)
                                    have n5_ := am (Kd.V_afterv (ok := (fun k_ => ((P0_ k_ ∨ P1_ k_) ∨ w.heap.size ≤ k_) ∧ some k_ ≠ (v265 : Value).ownBlock)) (by (with_reducible repeat (first | apply vA | apply vN | apply vD)); exact HL273_0.out) hg hat)
                                    have n6_ := am (hb)
                                    have n7_ := am (ho)
                                    clear HO_0
                                    clear HO_1
                                    clear HO255
                                    clear HO263
                                    clear HO266
                                    clear HL273_0
                                    clear HB
                                    clear HO269
                                    have HO_0 := n0_
                                    have HO_1 := n1_
                                    have HO255 := n2_
                                    have HO263 := n3_
                                    have HO266 := n4_
                                    have HL273_0 := n5_
                                    have HB := n6_
                                    have HO272 := n7_
                                    clear n0_ n1_ n2_ n3_ n4_ n5_ n6_ n7_
                                    clear ho hb hg hat
                                    refine hK.out _ _ (HS0_) (fun hHeld => ?_)
                                    clear hK K
                                    refine norm_ (a' := ?_) ?_ ?_
                                    rotate_left
                                    · show Act.put _ (some 39) _ = _
                                      simp only [Act.put, List.setIfInBounds_toArray, List.set_cons_zero, List.set_cons_succ, i64_w, i32_w]
                                      rfl
                                    refine one_ (i := 8) (N := some 45) #[true, true, true, true, true, true, true, true, true, false, false] rfl rfl (one_of HT_.out (by kernel_rfl)) (by decide) (fun K hK => ?_)
                                    refine Kd.N_lit_step (Kd.slice 9 Kd.string) _ 22 ?hg (N' := 45) ?hd (xs := ([rd_L1 l1 (ji11), l0] : List (List ByteArray))) (inner := [.slice A273_0 (rd_L1 l1 (ji11)).length c273_0, .slice A0 l0.length c0]) (ok := (fun k_ => ((P0_ k_ ∨ P1_ k_) ∨ w.heap.size ≤ k_) ∧ some k_ ≠ (v265 : Value).ownBlock ∧ some k_ ≠ (v271 : Value).ownBlock)) (okp := (fun k_ => ((P0_ k_ ∨ P1_ k_) ∨ w.heap.size ≤ k_) ∧ some k_ ≠ (v265 : Value).ownBlock ∧ some k_ ≠ (v271 : Value).ownBlock)) ?hr ?hp (fun _ hk => hk) ((show ∀ k_, w40.heap.size ≤ k_ → (fun k_ => ((P0_ k_ ∨ P1_ k_) ∨ w.heap.size ≤ k_) ∧ some k_ ≠ (v265 : Value).ownBlock ∧ some k_ ≠ (v271 : Value).ownBlock) k_ from fun k_ hk => ⟨(.inr (Nat.le_trans (below_size (by repeat (with_reducible first | exact HB.out | apply bA | apply bN | apply bD))) hk)), Kd.fresh' (Kd.N_lt (by (with_reducible repeat (first | apply nA | apply nN | apply nD)); exact HO266.out)) k_ hk, Kd.fresh' (Kd.N_lt (by (with_reducible repeat (first | apply nA | apply nN | apply nD)); exact HO272.out)) k_ hk⟩) _ (Nat.le_refl _)) (Below.refl _ _) (Nat.le_refl _) (by simp) ?_; (case hd => rfl); (case hg => rfl); (case hr => first | (go_simp; done) | (go_simp; rfl)); (case hp => exact (Reps.one (show Kd.FK (Kd.slice 9 Kd.string) _ _ (rd_L1 l1 (ji11)) [.slice A273_0 (rd_L1 l1 (ji11)).length c273_0] from (Kd.FK_slice_mk (Kd.V_reads' (Kd.V_mono (ok' := (fun k_ => ((P0_ k_ ∨ P1_ k_) ∨ w.heap.size ≤ k_) ∧ some k_ ≠ (v265 : Value).ownBlock ∧ some k_ ≠ (v271 : Value).ownBlock)) (HL273_0.out) (fun k_ hk => ⟨hk.1.1, ⟨hk.1.2, hk.2⟩⟩))).2.1 (Kd.V_F (Kd.V_mono (ok' := (fun k_ => ((P0_ k_ ∨ P1_ k_) ∨ w.heap.size ≤ k_) ∧ some k_ ≠ (v265 : Value).ownBlock ∧ some k_ ≠ (v271 : Value).ownBlock)) (HL273_0.out) (fun k_ hk => ⟨hk.1.1, ⟨hk.1.2, hk.2⟩⟩))))) (Reps.one (show Kd.FK (Kd.slice 9 Kd.string) _ _ l0 [.slice A0 l0.length c0] from (Kd.FK_slice_mk (Kd.V_reads' (Kd.V_mono (ok' := (fun k_ => ((P0_ k_ ∨ P1_ k_) ∨ w.heap.size ≤ k_) ∧ some k_ ≠ (v265 : Value).ownBlock ∧ some k_ ≠ (v271 : Value).ownBlock)) (HO_0.out) (fun k_ hk => ⟨hk.1.1, ⟨hk.1.2, hk.2⟩⟩))).2.1 (Kd.V_F (Kd.V_mono (ok' := (fun k_ => ((P0_ k_ ∨ P1_ k_) ∨ w.heap.size ≤ k_) ∧ some k_ ≠ (v265 : Value).ownBlock ∧ some k_ ≠ (v271 : Value).ownBlock)) (HO_0.out) (fun k_ hk => ⟨hk.1.1, ⟨hk.1.2, hk.2⟩⟩))))) (Reps.none _ _))))
                                    intro v275 w41 ho42 hb hg_ hnew_
                                    have HS0_ := (hb.cell (World.block_lt_of_cell? _ _ (hHeld))).trans (hHeld)
                                    clear hg_ hnew_
                                    rw [← Ny274.out] at ho42
                                    have n0_ := am (Kd.V_elder' (by (with_reducible repeat (first | apply vA | apply vN | apply vD)); exact HO_0.out) (Kd.N_base ho42) hb)
                                    have n1_ := am (Kd.V_elder' (by (with_reducible repeat (first | apply vA | apply vN | apply vD)); exact HO_1.out) (Kd.N_base ho42) hb)
                                    have n2_ := am (Kd.V_elder' (by (with_reducible repeat (first | apply vA | apply vN | apply vD)); exact HO255.out) (Kd.N_base ho42) hb)
                                    have n3_ := am (Kd.V_elder' (by (with_reducible repeat (first | apply vA | apply vN | apply vD)); exact HO263.out) (Kd.N_base ho42) hb)
                                    have n4_ := am (Kd.N_elder' (by (with_reducible repeat (first | apply nA | apply nN | apply nD)); exact HO266.out) (Kd.N_base ho42) hb)
                                    have n5_ := am (Kd.V_elder' (by (with_reducible repeat (first | apply vA | apply vN | apply vD)); exact HL273_0.out) (Kd.N_base ho42) hb)
                                    have n6_ := am (Kd.N_elder' (by (with_reducible repeat (first | apply nA | apply nN | apply nD)); exact HO272.out) (Kd.N_base ho42) hb)
                                    have n7_ := am (Kd.N_lower ho42 (below_size (by repeat (with_reducible first | exact HB.out | apply bA | apply bN | apply bD))))
                                    have n8_ := am (below_step (by repeat (with_reducible first | exact HB.out | apply bA | apply bN | apply bD)) hb)
                                    clear HO_0
                                    clear HO_1
                                    clear HO255
                                    clear HO263
                                    clear HO266
                                    clear HL273_0
                                    clear HO272
                                    clear HB
                                    have HO_0 := n0_
                                    have HO_1 := n1_
                                    have HO255 := n2_
                                    have HO263 := n3_
                                    have HO266 := n4_
                                    have HL273_0 := n5_
                                    have HO272 := n6_
                                    have HO276 := n7_
                                    have HB := n8_
                                    clear n0_ n1_ n2_ n3_ n4_ n5_ n6_ n7_ n8_
                                    clear hb ho42
                                    refine hK.out _ _ (HS0_) (fun hHeld => ?_)
                                    clear hK K
                                    refine norm_ (a' := ?_) ?_ ?_
                                    rotate_left
                                    · show Act.put _ (some 45) _ = _
                                      simp only [Act.put, List.setIfInBounds_toArray, List.set_cons_zero, List.set_cons_succ, i64_w, i32_w]
                                      rfl
                                    exact norm_ (by simp only [putAll, Act.put, List.setIfInBounds_toArray, List.set_cons_zero, List.set_cons_succ]) (hCont (v268, v271, v275) _ ⟨hHeld, (by (with_reducible repeat (first | apply vA | apply vN | apply vD)); exact Kd.V_mono HL273_0.out (fun _ hk => ⟨hk.1.1.1, ⟨hk.1.1.2, ⟨hk.1.2, hk.2⟩⟩⟩)), (by (with_reducible repeat (first | apply vA | apply vN | apply vD)); exact Kd.V_mono HO255.out (fun _ hk => ⟨hk.1.1.1, ⟨hk.1.1.2, ⟨hk.1.2, hk.2⟩⟩⟩)), (by (with_reducible repeat (first | apply vA | apply vN | apply vD)); exact Kd.V_mono HO263.out (fun _ hk => ⟨hk.1.1.1, ⟨hk.1.1.2, ⟨hk.1.2, hk.2⟩⟩⟩)), (by (with_reducible repeat (first | apply nA | apply nN | apply nD)); exact Kd.N_mono HO266.out (fun _ hk => ⟨hk.1.1, ⟨hk.1.2, hk.2⟩⟩)), (by (with_reducible repeat (first | apply nA | apply nN | apply nD)); exact Kd.N_mono HO272.out (fun _ hk => ⟨hk.1.1, ⟨hk.1.2, hk.2⟩⟩)), (by (with_reducible repeat (first | apply nA | apply nN | apply nD)); exact HO276.out), (by (with_reducible repeat (first | apply vA | apply vN | apply vD)); exact Kd.V_mono HO_0.out (fun _ hk => ⟨hk.1.1.1, ⟨hk.1.1.2, ⟨hk.1.2, hk.2⟩⟩⟩)), (by (with_reducible repeat (first | apply vA | apply vN | apply vD)); exact Kd.V_mono HO_1.out (fun _ hk => ⟨hk.1.1.1, ⟨hk.1.1.2, ⟨hk.1.2, hk.2⟩⟩⟩)), (by repeat (with_reducible first | exact HB.out | apply bA | apply bN | apply bD))⟩)
                                  · skip
                                    refine Kd.N_lit_step (Kd.slice 9 Kd.string) _ 22 ?hg (N' := 45) ?hd (xs := ([rd_L1 l1 (ji11), l0] : List (List ByteArray))) (inner := [.slice A273_0 (rd_L1 l1 (ji11)).length c273_0, .slice A0 l0.length c0]) (ok := (fun k_ => ((P0_ k_ ∨ P1_ k_) ∨ w.heap.size ≤ k_) ∧ some k_ ≠ (v265 : Value).ownBlock ∧ some k_ ≠ (v268 : Value).ownBlock)) (okp := (fun k_ => ((P0_ k_ ∨ P1_ k_) ∨ w.heap.size ≤ k_) ∧ some k_ ≠ (v265 : Value).ownBlock ∧ some k_ ≠ (v268 : Value).ownBlock)) ?hr ?hp (fun _ hk => hk) ((show ∀ k_, w38.heap.size ≤ k_ → (fun k_ => ((P0_ k_ ∨ P1_ k_) ∨ w.heap.size ≤ k_) ∧ some k_ ≠ (v265 : Value).ownBlock ∧ some k_ ≠ (v268 : Value).ownBlock) k_ from fun k_ hk => ⟨(.inr (Nat.le_trans (below_size (by repeat (with_reducible first | exact HB.out | apply bA | apply bN | apply bD))) hk)), Kd.fresh' (Kd.N_lt (by (with_reducible repeat (first | apply nA | apply nN | apply nD)); exact HO266.out)) k_ hk, Kd.fresh' (Kd.N_lt (by (with_reducible repeat (first | apply nA | apply nN | apply nD)); exact HO269.out)) k_ hk⟩) _ (Nat.le_refl _)) (Below.refl _ _) (Nat.le_refl _) (by simp) ?_; (case hd => rfl); (case hg => rfl); (case hr => first | (go_simp; done) | (go_simp; rfl)); (case hp => exact (Reps.one (show Kd.FK (Kd.slice 9 Kd.string) _ _ (rd_L1 l1 (ji11)) [.slice A273_0 (rd_L1 l1 (ji11)).length c273_0] from (Kd.FK_slice_mk (Kd.V_reads' (Kd.V_mono (ok' := (fun k_ => ((P0_ k_ ∨ P1_ k_) ∨ w.heap.size ≤ k_) ∧ some k_ ≠ (v265 : Value).ownBlock ∧ some k_ ≠ (v268 : Value).ownBlock)) (HL273_0.out) (fun k_ hk => ⟨hk.1.1, ⟨hk.1.2, hk.2⟩⟩))).2.1 (Kd.V_F (Kd.V_mono (ok' := (fun k_ => ((P0_ k_ ∨ P1_ k_) ∨ w.heap.size ≤ k_) ∧ some k_ ≠ (v265 : Value).ownBlock ∧ some k_ ≠ (v268 : Value).ownBlock)) (HL273_0.out) (fun k_ hk => ⟨hk.1.1, ⟨hk.1.2, hk.2⟩⟩))))) (Reps.one (show Kd.FK (Kd.slice 9 Kd.string) _ _ l0 [.slice A0 l0.length c0] from (Kd.FK_slice_mk (Kd.V_reads' (Kd.V_mono (ok' := (fun k_ => ((P0_ k_ ∨ P1_ k_) ∨ w.heap.size ≤ k_) ∧ some k_ ≠ (v265 : Value).ownBlock ∧ some k_ ≠ (v268 : Value).ownBlock)) (HO_0.out) (fun k_ hk => ⟨hk.1.1, ⟨hk.1.2, hk.2⟩⟩))).2.1 (Kd.V_F (Kd.V_mono (ok' := (fun k_ => ((P0_ k_ ∨ P1_ k_) ∨ w.heap.size ≤ k_) ∧ some k_ ≠ (v265 : Value).ownBlock ∧ some k_ ≠ (v268 : Value).ownBlock)) (HO_0.out) (fun k_ hk => ⟨hk.1.1, ⟨hk.1.2, hk.2⟩⟩))))) (Reps.none _ _))))
                                    intro v275 w40 ho41 hb hg_ hnew_
                                    have HS0_ := (hb.cell (World.block_lt_of_cell? _ _ (hHeld))).trans (hHeld)
                                    clear hg_ hnew_
                                    rw [← Ny274.out] at ho41
                                    have n0_ := am (Kd.V_elder' (by (with_reducible repeat (first | apply vA | apply vN | apply vD)); exact HO_0.out) (Kd.N_base ho41) hb)
                                    have n1_ := am (Kd.V_elder' (by (with_reducible repeat (first | apply vA | apply vN | apply vD)); exact HO_1.out) (Kd.N_base ho41) hb)
                                    have n2_ := am (Kd.V_elder' (by (with_reducible repeat (first | apply vA | apply vN | apply vD)); exact HO255.out) (Kd.N_base ho41) hb)
                                    have n3_ := am (Kd.V_elder' (by (with_reducible repeat (first | apply vA | apply vN | apply vD)); exact HO263.out) (Kd.N_base ho41) hb)
                                    have n4_ := am (Kd.N_elder' (by (with_reducible repeat (first | apply nA | apply nN | apply nD)); exact HO266.out) (Kd.N_base ho41) hb)
                                    have n5_ := am (Kd.V_elder' (by (with_reducible repeat (first | apply vA | apply vN | apply vD)); exact HL273_0.out) (Kd.N_base ho41) hb)
                                    have n6_ := am (Kd.N_elder' (by (with_reducible repeat (first | apply nA | apply nN | apply nD)); exact HO269.out) (Kd.N_base ho41) hb)
                                    have n7_ := am (Kd.N_lower ho41 (below_size (by repeat (with_reducible first | exact HB.out | apply bA | apply bN | apply bD))))
                                    have n8_ := am (Kd.C_below (by repeat (first | (with_reducible exact HR273_0.out) | (with_reducible refine Kd.C_alloc ?_ _) | (with_reducible refine Kd.C_drewN ?_ _) | (with_reducible refine Kd.C_drew ?_) | exact HR273_0.out)) hb)
                                    have n9_ := am (below_step (by repeat (with_reducible first | exact HB.out | apply bA | apply bN | apply bD)) hb)
                                    clear HO_0
                                    clear HO_1
                                    clear HO255
                                    clear HO263
                                    clear HO266
                                    clear HL273_0
                                    clear HO269
                                    clear HR273_0
                                    clear HB
                                    have HO_0 := n0_
                                    have HO_1 := n1_
                                    have HO255 := n2_
                                    have HO263 := n3_
                                    have HO266 := n4_
                                    have HL273_0 := n5_
                                    have HO269 := n6_
                                    have HO276 := n7_
                                    have HR273_0 := n8_
                                    have HB := n9_
                                    clear n0_ n1_ n2_ n3_ n4_ n5_ n6_ n7_ n8_ n9_
                                    clear hb ho41
                                    refine hK.out _ _ (HS0_) (fun hHeld => ?_)
                                    clear hK K
                                    refine norm_ (a' := ?_) ?_ ?_
                                    rotate_left
                                    · show Act.put _ (some 45) _ = _
                                      simp only [Act.put, List.setIfInBounds_toArray, List.set_cons_zero, List.set_cons_succ, i64_w, i32_w]
                                      rfl
                                    refine one_ (i := 2) (N := some 39) #[true, true, true, true, true, true, true, true, true, false, false] rfl rfl (one_of HT_.out (by kernel_rfl)) (by decide) (fun K hK => ?_)
                                    refine Kd.N_append_rows_step (Kd.slice 9 Kd.string) (w0 := w) w.heap.size (by rfl) (.tmp 37) (.tmp 38) 23 22 (.slice none 0 0) 24 rfl Try.underlying23 info22 rfl (by decide) (by omega) v268 y267 l1 _ _ _ (fun k_ => ((P0_ k_ ∨ P1_ k_) ∨ w.heap.size ≤ k_) ∧ some k_ ≠ (v265 : Value).ownBlock ∧ some k_ ≠ (v275 : Value).ownBlock) (fun k_ => ((fun k_ => ((P0_ k_ ∨ P1_ k_) ∨ w.heap.size ≤ k_) ∧ some k_ ≠ (v265 : Value).ownBlock ∧ some k_ ≠ (v275 : Value).ownBlock)) k_ ∧ some k_ ≠ (v268 : Value).ownBlock) rfl rfl ?aO ?aR (fun _ hk => hk) ?aF ?aB ?aS ?aL ?_
                                    (case aR => exact (by skip; exact Kd.V_F (Kd.V_mono (ok' := (fun k_ => ((fun k_ => ((P0_ k_ ∨ P1_ k_) ∨ w.heap.size ≤ k_) ∧ some k_ ≠ (v265 : Value).ownBlock ∧ some k_ ≠ (v275 : Value).ownBlock)) k_ ∧ some k_ ≠ (v268 : Value).ownBlock)) (HO_1.out) (fun k_ hk => ⟨⟨hk.1.1.1, ⟨hk.1.1.2, hk.2⟩⟩, hk.1.2⟩))))
                                    (case aB => exact (by repeat (with_reducible first | exact HB.out | apply bA | apply bN | apply bD)))
                                    (case aF => exact (fun k_ hk => ⟨(.inr (Nat.le_trans (below_size (by repeat (with_reducible first | exact HB.out | apply bA | apply bN | apply bD))) hk)), Kd.fresh' (Kd.N_lt (by (with_reducible repeat (first | apply nA | apply nN | apply nD)); exact HO266.out)) k_ hk, Kd.fresh' (Kd.N_lt (by (with_reducible repeat (first | apply nA | apply nN | apply nD)); exact HO276.out)) k_ hk⟩))
                                    (case aO => exact (by (with_reducible repeat (first | apply nA | apply nN | apply nD)); exact Kd.N_mono HO269.out (fun _ hk => ⟨hk.1.1, ⟨hk.1.2, hk.2⟩⟩)))
                                    (case aS => exact (below_size (by repeat (with_reducible first | exact HB.out | apply bA | apply bN | apply bD))))
                                    (case aL => have := LMc18.out; omega)
                                    intro v271 w42 ho hb hg hat
                                    have HS0_ := cell_grown hg (hHeld) (fun e_ => by obtain ⟨ad_, A_, c_, ee_, hx_, _, _⟩ := at_L1 (Kd.V_reads' hs1).2.2 _ (of_eq_true p273) (of_eq_true q273); cases ee_; exact absurd (World.block_lt_of_cell? _ _ hx_) (Nat.not_lt.mpr (Kd.N_base HO269.out _ e_.symm)))
                                    rw [← Ny270.out] at ho
                                    have n0_ := am (Kd.V_afterv (ok := (fun k_ => ((P0_ k_ ∨ P1_ k_) ∨ w.heap.size ≤ k_) ∧ some k_ ≠ (v265 : Value).ownBlock ∧ some k_ ≠ (v275 : Value).ownBlock)) (by (with_reducible repeat (first | apply vA | apply vN | apply vD)); exact Kd.V_mono HO_0.out (fun _ hk => ⟨⟨hk.1.1.1, ⟨hk.1.1.2, hk.2⟩⟩, hk.1.2⟩)) hg hat)
                                    have n1_ := am (Kd.V_afterv (ok := (fun k_ => ((P0_ k_ ∨ P1_ k_) ∨ w.heap.size ≤ k_) ∧ some k_ ≠ (v265 : Value).ownBlock ∧ some k_ ≠ (v275 : Value).ownBlock)) (by (with_reducible repeat (first | apply vA | apply vN | apply vD)); exact Kd.V_mono HO_1.out (fun _ hk => ⟨⟨hk.1.1.1, ⟨hk.1.1.2, hk.2⟩⟩, hk.1.2⟩)) hg hat)
                                    have n2_ := am (Kd.V_afterv (ok := (fun k_ => ((P0_ k_ ∨ P1_ k_) ∨ w.heap.size ≤ k_) ∧ some k_ ≠ (v265 : Value).ownBlock ∧ some k_ ≠ (v275 : Value).ownBlock)) (by (with_reducible repeat (first | apply vA | apply vN | apply vD)); exact Kd.V_mono HO255.out (fun _ hk => ⟨⟨hk.1.1.1, ⟨hk.1.1.2, hk.2⟩⟩, hk.1.2⟩)) hg hat)
                                    have n3_ := am (Kd.V_afterv (ok := (fun k_ => ((P0_ k_ ∨ P1_ k_) ∨ w.heap.size ≤ k_) ∧ some k_ ≠ (v265 : Value).ownBlock ∧ some k_ ≠ (v275 : Value).ownBlock)) (by (with_reducible repeat (first | apply vA | apply vN | apply vD)); exact Kd.V_mono HO263.out (fun _ hk => ⟨⟨hk.1.1.1, ⟨hk.1.1.2, hk.2⟩⟩, hk.1.2⟩)) hg hat)
                                    have n4_ := am (Kd.N_afterv (ok := (fun k_ => ((P0_ k_ ∨ P1_ k_) ∨ w.heap.size ≤ k_) ∧ some k_ ≠ (v275 : Value).ownBlock)) (by (with_reducible repeat (first | apply nA | apply nN | apply nD)); exact Kd.N_mono HO266.out (fun _ hk => ⟨⟨hk.1.1, hk.2⟩, hk.1.2⟩)) hg hat)
                                    have n5_ := am (Kd.V_afterv (ok := (fun k_ => ((P0_ k_ ∨ P1_ k_) ∨ w.heap.size ≤ k_) ∧ some k_ ≠ (v265 : Value).ownBlock ∧ some k_ ≠ (v275 : Value).ownBlock)) (by (with_reducible repeat (first | apply vA | apply vN | apply vD)); exact Kd.V_mono HL273_0.out (fun _ hk => ⟨⟨hk.1.1.1, ⟨hk.1.1.2, hk.2⟩⟩, hk.1.2⟩)) hg hat)
                                    have n6_ := am (Kd.N_afterv (ok := (fun k_ => ((P0_ k_ ∨ P1_ k_) ∨ w.heap.size ≤ k_) ∧ some k_ ≠ (v265 : Value).ownBlock)) (by (with_reducible repeat (first | apply nA | apply nN | apply nD)); exact Kd.N_mono HO276.out (fun _ hk => ⟨⟨hk.1, hk.2.1⟩, hk.2.2⟩)) hg hat)
                                    have n7_ := am (hb)
                                    have n8_ := am (ho)
                                    clear HO_0
                                    clear HO_1
                                    clear HO255
                                    clear HO263
                                    clear HO266
                                    clear HL273_0
                                    clear HO276
                                    clear HB
                                    clear HO269
                                    have HO_0 := n0_
                                    have HO_1 := n1_
                                    have HO255 := n2_
                                    have HO263 := n3_
                                    have HO266 := n4_
                                    have HL273_0 := n5_
                                    have HO276 := n6_
                                    have HB := n7_
                                    have HO272 := n8_
                                    clear n0_ n1_ n2_ n3_ n4_ n5_ n6_ n7_ n8_
                                    clear ho hb hg hat
                                    refine hK.out _ _ (HS0_) (fun hHeld => ?_)
                                    clear hK K
                                    refine norm_ (a' := ?_) ?_ ?_
                                    rotate_left
                                    · show Act.put _ (some 39) _ = _
                                      simp only [Act.put, List.setIfInBounds_toArray, List.set_cons_zero, List.set_cons_succ, i64_w, i32_w]
                                      rfl
                                    exact norm_ (by simp only [putAll, Act.put, List.setIfInBounds_toArray, List.set_cons_zero, List.set_cons_succ]) (hCont (v268, v271, v275) _ ⟨hHeld, (by (with_reducible repeat (first | apply vA | apply vN | apply vD)); exact Kd.V_mono HL273_0.out (fun _ hk => ⟨hk.1.1, ⟨hk.1.2.1, ⟨hk.2, hk.1.2.2⟩⟩⟩)), (by (with_reducible repeat (first | apply vA | apply vN | apply vD)); exact Kd.V_mono HO255.out (fun _ hk => ⟨hk.1.1, ⟨hk.1.2.1, ⟨hk.2, hk.1.2.2⟩⟩⟩)), (by (with_reducible repeat (first | apply vA | apply vN | apply vD)); exact Kd.V_mono HO263.out (fun _ hk => ⟨hk.1.1, ⟨hk.1.2.1, ⟨hk.2, hk.1.2.2⟩⟩⟩)), (by (with_reducible repeat (first | apply nA | apply nN | apply nD)); exact Kd.N_mono HO266.out (fun _ hk => ⟨hk.1.1, ⟨hk.2, hk.1.2⟩⟩)), (by (with_reducible repeat (first | apply nA | apply nN | apply nD)); exact HO272.out), (by (with_reducible repeat (first | apply nA | apply nN | apply nD)); exact Kd.N_mono HO276.out (fun _ hk => ⟨hk.1.1, ⟨hk.1.2, hk.2⟩⟩)), (by (with_reducible repeat (first | apply vA | apply vN | apply vD)); exact Kd.V_mono HO_0.out (fun _ hk => ⟨hk.1.1, ⟨hk.1.2.1, ⟨hk.2, hk.1.2.2⟩⟩⟩)), (by (with_reducible repeat (first | apply vA | apply vN | apply vD)); exact Kd.V_mono HO_1.out (fun _ hk => ⟨hk.1.1, ⟨hk.1.2.1, ⟨hk.2, hk.1.2.2⟩⟩⟩)), (by repeat (with_reducible first | exact HB.out | apply bA | apply bN | apply bD))⟩)
                                · skip
                                  refine Kd.N_lit_step (Kd.slice 9 Kd.string) _ 22 ?hg (N' := 45) ?hd (xs := ([rd_L1 l1 (ji11), l0] : List (List ByteArray))) (inner := [.slice A273_0 (rd_L1 l1 (ji11)).length c273_0, .slice A0 l0.length c0]) (ok := (fun k_ => ((P0_ k_ ∨ P1_ k_) ∨ w.heap.size ≤ k_) ∧ some k_ ≠ (v265 : Value).ownBlock)) (okp := (fun k_ => ((P0_ k_ ∨ P1_ k_) ∨ w.heap.size ≤ k_) ∧ some k_ ≠ (v265 : Value).ownBlock)) ?hr ?hp (fun _ hk => hk) ((show ∀ k_, w37.heap.size ≤ k_ → (fun k_ => ((P0_ k_ ∨ P1_ k_) ∨ w.heap.size ≤ k_) ∧ some k_ ≠ (v265 : Value).ownBlock) k_ from fun k_ hk => ⟨(.inr (Nat.le_trans (below_size (by repeat (with_reducible first | exact HB.out | apply bA | apply bN | apply bD))) hk)), Kd.fresh' (Kd.N_lt (by (with_reducible repeat (first | apply nA | apply nN | apply nD)); exact HO266.out)) k_ hk⟩) _ (Nat.le_refl _)) (Below.refl _ _) (Nat.le_refl _) (by simp) ?_; (case hd => rfl); (case hg => rfl); (case hr => first | (go_simp; done) | (go_simp; rfl)); (case hp => exact (Reps.one (show Kd.FK (Kd.slice 9 Kd.string) _ _ (rd_L1 l1 (ji11)) [.slice A273_0 (rd_L1 l1 (ji11)).length c273_0] from (Kd.FK_slice_mk (Kd.V_reads' (Kd.V_mono (ok' := (fun k_ => ((P0_ k_ ∨ P1_ k_) ∨ w.heap.size ≤ k_) ∧ some k_ ≠ (v265 : Value).ownBlock)) (HL273_0.out) (fun k_ hk => ⟨hk.1, hk.2⟩))).2.1 (Kd.V_F (Kd.V_mono (ok' := (fun k_ => ((P0_ k_ ∨ P1_ k_) ∨ w.heap.size ≤ k_) ∧ some k_ ≠ (v265 : Value).ownBlock)) (HL273_0.out) (fun k_ hk => ⟨hk.1, hk.2⟩))))) (Reps.one (show Kd.FK (Kd.slice 9 Kd.string) _ _ l0 [.slice A0 l0.length c0] from (Kd.FK_slice_mk (Kd.V_reads' (Kd.V_mono (ok' := (fun k_ => ((P0_ k_ ∨ P1_ k_) ∨ w.heap.size ≤ k_) ∧ some k_ ≠ (v265 : Value).ownBlock)) (HO_0.out) (fun k_ hk => ⟨hk.1, hk.2⟩))).2.1 (Kd.V_F (Kd.V_mono (ok' := (fun k_ => ((P0_ k_ ∨ P1_ k_) ∨ w.heap.size ≤ k_) ∧ some k_ ≠ (v265 : Value).ownBlock)) (HO_0.out) (fun k_ hk => ⟨hk.1, hk.2⟩))))) (Reps.none _ _))))
                                  intro v275 w38 ho39 hb hg_ hnew_
                                  have HS0_ := (hb.cell (World.block_lt_of_cell? _ _ (hHeld))).trans (hHeld)
                                  clear hg_ hnew_
                                  rw [← Ny274.out] at ho39
                                  have n0_ := am (Kd.V_elder' (by (with_reducible repeat (first | apply vA | apply vN | apply vD)); exact HO_0.out) (Kd.N_base ho39) hb)
                                  have n1_ := am (Kd.V_elder' (by (with_reducible repeat (first | apply vA | apply vN | apply vD)); exact HO_1.out) (Kd.N_base ho39) hb)
                                  have n2_ := am (Kd.V_elder' (by (with_reducible repeat (first | apply vA | apply vN | apply vD)); exact HO255.out) (Kd.N_base ho39) hb)
                                  have n3_ := am (Kd.V_elder' (by (with_reducible repeat (first | apply vA | apply vN | apply vD)); exact HO263.out) (Kd.N_base ho39) hb)
                                  have n4_ := am (Kd.N_elder' (by (with_reducible repeat (first | apply nA | apply nN | apply nD)); exact HO266.out) (Kd.N_base ho39) hb)
                                  have n5_ := am (Kd.V_elder' (by (with_reducible repeat (first | apply vA | apply vN | apply vD)); exact HL273_0.out) (Kd.N_base ho39) hb)
                                  have n6_ := am (Kd.N_lower ho39 (below_size (by repeat (with_reducible first | exact HB.out | apply bA | apply bN | apply bD))))
                                  have n7_ := am (Kd.C_below (by repeat (first | (with_reducible exact HR273_0.out) | (with_reducible refine Kd.C_alloc ?_ _) | (with_reducible refine Kd.C_drewN ?_ _) | (with_reducible refine Kd.C_drew ?_) | exact HR273_0.out)) hb)
                                  have n8_ := am (below_step (by repeat (with_reducible first | exact HB.out | apply bA | apply bN | apply bD)) hb)
                                  clear HO_0
                                  clear HO_1
                                  clear HO255
                                  clear HO263
                                  clear HO266
                                  clear HL273_0
                                  clear HR273_0
                                  clear HB
                                  have HO_0 := n0_
                                  have HO_1 := n1_
                                  have HO255 := n2_
                                  have HO263 := n3_
                                  have HO266 := n4_
                                  have HL273_0 := n5_
                                  have HO276 := n6_
                                  have HR273_0 := n7_
                                  have HB := n8_
                                  clear n0_ n1_ n2_ n3_ n4_ n5_ n6_ n7_ n8_
                                  clear hb ho39
                                  refine hK.out _ _ (HS0_) (fun hHeld => ?_)
                                  clear hK K
                                  refine norm_ (a' := ?_) ?_ ?_
                                  rotate_left
                                  · show Act.put _ (some 45) _ = _
                                    simp only [Act.put, List.setIfInBounds_toArray, List.set_cons_zero, List.set_cons_succ, i64_w, i32_w]
                                    rfl
                                  refine one_ (i := 0) (N := some 37) #[true, true, false, true, true, true, true, true, true, false, false] rfl rfl (one_of HT_.out (by kernel_rfl)) (by decide) (fun K hK => ?_)
                                  refine Kd.N_lit_step (Kd.slice 9 Kd.string) _ 22 ?hg (N' := 37) ?hd (xs := ([] : List (List ByteArray))) (inner := []) (ok := (fun k_ => ((P0_ k_ ∨ P1_ k_) ∨ w.heap.size ≤ k_) ∧ some k_ ≠ (v265 : Value).ownBlock ∧ some k_ ≠ (v275 : Value).ownBlock)) (okp := (fun k_ => ((P0_ k_ ∨ P1_ k_) ∨ w.heap.size ≤ k_) ∧ some k_ ≠ (v265 : Value).ownBlock ∧ some k_ ≠ (v275 : Value).ownBlock)) ?hr ?hp (fun _ hk => hk) ((show ∀ k_, w38.heap.size ≤ k_ → (fun k_ => ((P0_ k_ ∨ P1_ k_) ∨ w.heap.size ≤ k_) ∧ some k_ ≠ (v265 : Value).ownBlock ∧ some k_ ≠ (v275 : Value).ownBlock) k_ from fun k_ hk => ⟨(.inr (Nat.le_trans (below_size (by repeat (with_reducible first | exact HB.out | apply bA | apply bN | apply bD))) hk)), Kd.fresh' (Kd.N_lt (by (with_reducible repeat (first | apply nA | apply nN | apply nD)); exact HO266.out)) k_ hk, Kd.fresh' (Kd.N_lt (by (with_reducible repeat (first | apply nA | apply nN | apply nD)); exact HO276.out)) k_ hk⟩) _ (Nat.le_refl _)) (Below.refl _ _) (Nat.le_refl _) (by simp) ?_; (case hd => rfl); (case hg => rfl); (case hr => first | (go_simp; done) | (go_simp; rfl)); (case hp => exact (Reps.none _ _))
                                  intro v268 w40 ho41 hb hg_ hnew_
                                  have HS0_ := (hb.cell (World.block_lt_of_cell? _ _ (hHeld))).trans (hHeld)
                                  clear hg_ hnew_
                                  rw [← Ny267.out] at ho41
                                  have n0_ := am (Kd.V_elder' (by (with_reducible repeat (first | apply vA | apply vN | apply vD)); exact HO_0.out) (Kd.N_base ho41) hb)
                                  have n1_ := am (Kd.V_elder' (by (with_reducible repeat (first | apply vA | apply vN | apply vD)); exact HO_1.out) (Kd.N_base ho41) hb)
                                  have n2_ := am (Kd.V_elder' (by (with_reducible repeat (first | apply vA | apply vN | apply vD)); exact HO255.out) (Kd.N_base ho41) hb)
                                  have n3_ := am (Kd.V_elder' (by (with_reducible repeat (first | apply vA | apply vN | apply vD)); exact HO263.out) (Kd.N_base ho41) hb)
                                  have n4_ := am (Kd.N_elder' (by (with_reducible repeat (first | apply nA | apply nN | apply nD)); exact HO266.out) (Kd.N_base ho41) hb)
                                  have n5_ := am (Kd.V_elder' (by (with_reducible repeat (first | apply vA | apply vN | apply vD)); exact HL273_0.out) (Kd.N_base ho41) hb)
                                  have n6_ := am (Kd.N_elder' (by (with_reducible repeat (first | apply nA | apply nN | apply nD)); exact HO276.out) (Kd.N_base ho41) hb)
                                  have n7_ := am (Kd.N_lower ho41 (below_size (by repeat (with_reducible first | exact HB.out | apply bA | apply bN | apply bD))))
                                  have n8_ := am (Kd.C_below (by repeat (first | (with_reducible exact HR273_0.out) | (with_reducible refine Kd.C_alloc ?_ _) | (with_reducible refine Kd.C_drewN ?_ _) | (with_reducible refine Kd.C_drew ?_) | exact HR273_0.out)) hb)
                                  have n9_ := am (below_step (by repeat (with_reducible first | exact HB.out | apply bA | apply bN | apply bD)) hb)
                                  clear HO_0
                                  clear HO_1
                                  clear HO255
                                  clear HO263
                                  clear HO266
                                  clear HL273_0
                                  clear HO276
                                  clear HR273_0
                                  clear HB
                                  have HO_0 := n0_
                                  have HO_1 := n1_
                                  have HO255 := n2_
                                  have HO263 := n3_
                                  have HO266 := n4_
                                  have HL273_0 := n5_
                                  have HO276 := n6_
                                  have HO269 := n7_
                                  have HR273_0 := n8_
                                  have HB := n9_
                                  clear n0_ n1_ n2_ n3_ n4_ n5_ n6_ n7_ n8_ n9_
                                  clear hb ho41
                                  refine hK.out _ _ (HS0_) (fun hHeld => ?_)
                                  clear hK K
                                  refine norm_ (a' := ?_) ?_ ?_
                                  rotate_left
                                  · show Act.put _ (some 37) _ = _
                                    simp only [Act.put, List.setIfInBounds_toArray, List.set_cons_zero, List.set_cons_succ, i64_w, i32_w]
                                    rfl
                                  refine one_ (i := 2) (N := some 39) #[true, true, true, true, true, true, true, true, true, false, false] rfl rfl (one_of HT_.out (by kernel_rfl)) (by decide) (fun K hK => ?_)
                                  refine Kd.N_append_rows_step (Kd.slice 9 Kd.string) (w0 := w) w.heap.size (by rfl) (.tmp 37) (.tmp 38) 23 22 (.slice none 0 0) 24 rfl Try.underlying23 info22 rfl (by decide) (by omega) v268 y267 l1 _ _ _ (fun k_ => ((P0_ k_ ∨ P1_ k_) ∨ w.heap.size ≤ k_) ∧ some k_ ≠ (v265 : Value).ownBlock ∧ some k_ ≠ (v275 : Value).ownBlock) (fun k_ => ((fun k_ => ((P0_ k_ ∨ P1_ k_) ∨ w.heap.size ≤ k_) ∧ some k_ ≠ (v265 : Value).ownBlock ∧ some k_ ≠ (v275 : Value).ownBlock)) k_ ∧ some k_ ≠ (v268 : Value).ownBlock) rfl rfl ?aO ?aR (fun _ hk => hk) ?aF ?aB ?aS ?aL ?_
                                  (case aR => exact (by skip; exact Kd.V_F (Kd.V_mono (ok' := (fun k_ => ((fun k_ => ((P0_ k_ ∨ P1_ k_) ∨ w.heap.size ≤ k_) ∧ some k_ ≠ (v265 : Value).ownBlock ∧ some k_ ≠ (v275 : Value).ownBlock)) k_ ∧ some k_ ≠ (v268 : Value).ownBlock)) (HO_1.out) (fun k_ hk => ⟨⟨hk.1.1.1, ⟨hk.1.1.2, hk.1.2⟩⟩, hk.2⟩))))
                                  (case aB => exact (by repeat (with_reducible first | exact HB.out | apply bA | apply bN | apply bD)))
                                  (case aF => exact (fun k_ hk => ⟨(.inr (Nat.le_trans (below_size (by repeat (with_reducible first | exact HB.out | apply bA | apply bN | apply bD))) hk)), Kd.fresh' (Kd.N_lt (by (with_reducible repeat (first | apply nA | apply nN | apply nD)); exact HO266.out)) k_ hk, Kd.fresh' (Kd.N_lt (by (with_reducible repeat (first | apply nA | apply nN | apply nD)); exact HO276.out)) k_ hk⟩))
                                  (case aO => exact (by (with_reducible repeat (first | apply nA | apply nN | apply nD)); exact HO269.out))
                                  (case aS => exact (below_size (by repeat (with_reducible first | exact HB.out | apply bA | apply bN | apply bD))))
                                  (case aL => have := LMc18.out; omega)
                                  intro v271 w42 ho hb hg hat
                                  have HS0_ := cell_grown hg (hHeld) (fun e_ => by obtain ⟨ad_, A_, c_, ee_, hx_, _, _⟩ := at_L1 (Kd.V_reads' hs1).2.2 _ (of_eq_true p273) (of_eq_true q273); cases ee_; exact absurd (World.block_lt_of_cell? _ _ hx_) (Nat.not_lt.mpr (Kd.N_base HO269.out _ e_.symm)))
                                  rw [← Ny270.out] at ho
                                  have n0_ := am (Kd.V_afterv (ok := (fun k_ => ((P0_ k_ ∨ P1_ k_) ∨ w.heap.size ≤ k_) ∧ some k_ ≠ (v265 : Value).ownBlock ∧ some k_ ≠ (v275 : Value).ownBlock)) (by (with_reducible repeat (first | apply vA | apply vN | apply vD)); exact Kd.V_mono HO_0.out (fun _ hk => ⟨⟨hk.1.1.1, ⟨hk.1.1.2, hk.1.2⟩⟩, hk.2⟩)) hg hat)
                                  have n1_ := am (Kd.V_afterv (ok := (fun k_ => ((P0_ k_ ∨ P1_ k_) ∨ w.heap.size ≤ k_) ∧ some k_ ≠ (v265 : Value).ownBlock ∧ some k_ ≠ (v275 : Value).ownBlock)) (by (with_reducible repeat (first | apply vA | apply vN | apply vD)); exact Kd.V_mono HO_1.out (fun _ hk => ⟨⟨hk.1.1.1, ⟨hk.1.1.2, hk.1.2⟩⟩, hk.2⟩)) hg hat)
                                  have n2_ := am (Kd.V_afterv (ok := (fun k_ => ((P0_ k_ ∨ P1_ k_) ∨ w.heap.size ≤ k_) ∧ some k_ ≠ (v265 : Value).ownBlock ∧ some k_ ≠ (v275 : Value).ownBlock)) (by (with_reducible repeat (first | apply vA | apply vN | apply vD)); exact Kd.V_mono HO255.out (fun _ hk => ⟨⟨hk.1.1.1, ⟨hk.1.1.2, hk.1.2⟩⟩, hk.2⟩)) hg hat)
                                  have n3_ := am (Kd.V_afterv (ok := (fun k_ => ((P0_ k_ ∨ P1_ k_) ∨ w.heap.size ≤ k_) ∧ some k_ ≠ (v265 : Value).ownBlock ∧ some k_ ≠ (v275 : Value).ownBlock)) (by (with_reducible repeat (first | apply vA | apply vN | apply vD)); exact Kd.V_mono HO263.out (fun _ hk => ⟨⟨hk.1.1.1, ⟨hk.1.1.2, hk.1.2⟩⟩, hk.2⟩)) hg hat)
                                  have n4_ := am (Kd.N_afterv (ok := (fun k_ => ((P0_ k_ ∨ P1_ k_) ∨ w.heap.size ≤ k_) ∧ some k_ ≠ (v275 : Value).ownBlock)) (by (with_reducible repeat (first | apply nA | apply nN | apply nD)); exact HO266.out) hg hat)
                                  have n5_ := am (Kd.V_afterv (ok := (fun k_ => ((P0_ k_ ∨ P1_ k_) ∨ w.heap.size ≤ k_) ∧ some k_ ≠ (v265 : Value).ownBlock ∧ some k_ ≠ (v275 : Value).ownBlock)) (by (with_reducible repeat (first | apply vA | apply vN | apply vD)); exact Kd.V_mono HL273_0.out (fun _ hk => ⟨⟨hk.1.1.1, ⟨hk.1.1.2, hk.1.2⟩⟩, hk.2⟩)) hg hat)
                                  have n6_ := am (Kd.N_afterv (ok := (fun k_ => ((P0_ k_ ∨ P1_ k_) ∨ w.heap.size ≤ k_) ∧ some k_ ≠ (v265 : Value).ownBlock)) (by (with_reducible repeat (first | apply nA | apply nN | apply nD)); exact HO276.out) hg hat)
                                  have n7_ := am (hb)
                                  have n8_ := am (ho)
                                  clear HO_0
                                  clear HO_1
                                  clear HO255
                                  clear HO263
                                  clear HO266
                                  clear HL273_0
                                  clear HO276
                                  clear HB
                                  clear HO269
                                  have HO_0 := n0_
                                  have HO_1 := n1_
                                  have HO255 := n2_
                                  have HO263 := n3_
                                  have HO266 := n4_
                                  have HL273_0 := n5_
                                  have HO276 := n6_
                                  have HB := n7_
                                  have HO272 := n8_
                                  clear n0_ n1_ n2_ n3_ n4_ n5_ n6_ n7_ n8_
                                  clear ho hb hg hat
                                  refine hK.out _ _ (HS0_) (fun hHeld => ?_)
                                  clear hK K
                                  refine norm_ (a' := ?_) ?_ ?_
                                  rotate_left
                                  · show Act.put _ (some 39) _ = _
                                    simp only [Act.put, List.setIfInBounds_toArray, List.set_cons_zero, List.set_cons_succ, i64_w, i32_w]
                                    rfl
                                  exact norm_ (by simp only [putAll, Act.put, List.setIfInBounds_toArray, List.set_cons_zero, List.set_cons_succ]) (hCont (v268, v271, v275) _ ⟨hHeld, (by (with_reducible repeat (first | apply vA | apply vN | apply vD)); exact Kd.V_mono HL273_0.out (fun _ hk => ⟨hk.1.1, ⟨hk.1.2.1, ⟨hk.2, hk.1.2.2⟩⟩⟩)), (by (with_reducible repeat (first | apply vA | apply vN | apply vD)); exact Kd.V_mono HO255.out (fun _ hk => ⟨hk.1.1, ⟨hk.1.2.1, ⟨hk.2, hk.1.2.2⟩⟩⟩)), (by (with_reducible repeat (first | apply vA | apply vN | apply vD)); exact Kd.V_mono HO263.out (fun _ hk => ⟨hk.1.1, ⟨hk.1.2.1, ⟨hk.2, hk.1.2.2⟩⟩⟩)), (by (with_reducible repeat (first | apply nA | apply nN | apply nD)); exact Kd.N_mono HO266.out (fun _ hk => ⟨hk.1.1, ⟨hk.2, hk.1.2⟩⟩)), (by (with_reducible repeat (first | apply nA | apply nN | apply nD)); exact HO272.out), (by (with_reducible repeat (first | apply nA | apply nN | apply nD)); exact Kd.N_mono HO276.out (fun _ hk => ⟨hk.1.1, ⟨hk.1.2, hk.2⟩⟩)), (by (with_reducible repeat (first | apply vA | apply vN | apply vD)); exact Kd.V_mono HO_0.out (fun _ hk => ⟨hk.1.1, ⟨hk.1.2.1, ⟨hk.2, hk.1.2.2⟩⟩⟩)), (by (with_reducible repeat (first | apply vA | apply vN | apply vD)); exact Kd.V_mono HO_1.out (fun _ hk => ⟨hk.1.1, ⟨hk.1.2.1, ⟨hk.2, hk.1.2.2⟩⟩⟩)), (by repeat (with_reducible first | exact HB.out | apply bA | apply bN | apply bD))⟩)
                              rintro ⟨v268, v271, v275⟩ w43 ⟨hS_, h0_, h1_, h2_, h3_, h4_, h5_, h6_, h7_, h8_⟩
                              have n0_ : Aside0 (Kd.V Kd.string 9 w43 w.heap.size (fun k_ => ((P0_ k_ ∨ P1_ k_) ∨ w.heap.size ≤ k_) ∧ some k_ ≠ (v265 : Value).ownBlock ∧ some k_ ≠ (v271 : Value).ownBlock ∧ some k_ ≠ (v275 : Value).ownBlock) (.slice A273_0 (rd_L1 l1 (ji11)).length c273_0) (rd_L1 l1 (ji11))) := ⟨h0_⟩
                              have n1_ : Aside0 (Kd.V (Kd.slice 9 Kd.string) 22 w43 w.heap.size (fun k_ => ((P0_ k_ ∨ P1_ k_) ∨ w.heap.size ≤ k_) ∧ some k_ ≠ (v265 : Value).ownBlock ∧ some k_ ≠ (v271 : Value).ownBlock ∧ some k_ ≠ (v275 : Value).ownBlock) (.slice A31 y251.length c31) y251) := ⟨h1_⟩
                              have n2_ : Aside0 (Kd.V (Kd.slice 9 Kd.string) 22 w43 w.heap.size (fun k_ => ((P0_ k_ ∨ P1_ k_) ∨ w.heap.size ≤ k_) ∧ some k_ ≠ (v265 : Value).ownBlock ∧ some k_ ≠ (v271 : Value).ownBlock ∧ some k_ ≠ (v275 : Value).ownBlock) (.slice (some ad273) y259.length c1) y259) := ⟨h2_⟩
                              have n3_ : Aside0 (Kd.N (Kd.slice 9 Kd.string) 22 w43 w.heap.size (fun k_ => ((P0_ k_ ∨ P1_ k_) ∨ w.heap.size ≤ k_) ∧ some k_ ≠ (v271 : Value).ownBlock ∧ some k_ ≠ (v275 : Value).ownBlock) v265 y264) := ⟨h3_⟩
                              have n4_ : Aside0 (Kd.N (Kd.slice 9 Kd.string) 22 w43 w.heap.size (fun k_ => ((P0_ k_ ∨ P1_ k_) ∨ w.heap.size ≤ k_) ∧ some k_ ≠ (v265 : Value).ownBlock ∧ some k_ ≠ (v275 : Value).ownBlock) v271 y270) := ⟨h4_⟩
                              have n5_ : Aside0 (Kd.N (Kd.slice 9 Kd.string) 22 w43 w.heap.size (fun k_ => ((P0_ k_ ∨ P1_ k_) ∨ w.heap.size ≤ k_) ∧ some k_ ≠ (v265 : Value).ownBlock ∧ some k_ ≠ (v271 : Value).ownBlock) v275 y274) := ⟨h5_⟩
                              have n6_ : Aside0 (Kd.V Kd.string 9 w43 w.heap.size (fun k_ => ((P0_ k_ ∨ P1_ k_) ∨ w.heap.size ≤ k_) ∧ some k_ ≠ (v265 : Value).ownBlock ∧ some k_ ≠ (v271 : Value).ownBlock ∧ some k_ ≠ (v275 : Value).ownBlock) (.slice A0 l0.length c0) l0) := ⟨h6_⟩
                              have n7_ : Aside0 (Kd.V (Kd.slice 9 Kd.string) 22 w43 w.heap.size (fun k_ => ((P0_ k_ ∨ P1_ k_) ∨ w.heap.size ≤ k_) ∧ some k_ ≠ (v265 : Value).ownBlock ∧ some k_ ≠ (v271 : Value).ownBlock ∧ some k_ ≠ (v275 : Value).ownBlock) (.slice (some ad273) l1.length c1) l1) := ⟨h7_⟩
                              have n8_ : Aside0 (Below w.heap.size w w43) := ⟨h8_⟩
                              clear HO_0
                              clear HO_1
                              clear HO255
                              clear HO263
                              clear HO266
                              clear HB
                              clear h0_ h1_ h2_ h3_ h4_ h5_ h6_ h7_ h8_
                              have HL273_0 := n0_
                              have HO255 := n1_
                              have HO263 := n2_
                              have HO266 := n3_
                              have HO272 := n4_
                              have HO276 := n5_
                              have HO_0 := n6_
                              have HO_1 := n7_
                              have HB := n8_
                              clear n0_ n1_ n2_ n3_ n4_ n5_ n6_ n7_ n8_
                              have hHeld : w43.cell? (ad273.add ((ji11)).toNat) = some (.slice A273_0 (rd_L1 l1 (ji11)).length c273_0) := hS_
                              obtain ⟨Ao45, co45, eo45⟩ := Kd.N_slice HO276.out
                              (first | subst eo45 | (injection eo45 with f1_ f2_ f3_; have f4_ := f1_.symm; have f5_ := f3_.symm; clear f1_ f2_ f3_; subst f4_; subst f5_))
                              refine norm_ (a' := ?_) ?_ ?_
                              rotate_left
                              · simp only [putAll, Act.put, List.setIfInBounds_toArray, List.set_cons_zero, List.set_cons_succ]
                                rfl
                              refine one_ (i := 9) (N := some 46) #[true, true, true, true, true, true, true, true, true, true, false] rfl rfl (one_of HT_.out (by kernel_rfl)) (by decide) (fun K hK => ?_)
                              refine Kd.N_append_rows_step (Kd.slice 9 Kd.string) (w0 := w) w.heap.size (by rfl) (.tmp 39) (.tmp 45) 23 22 (.slice none 0 0) 24 rfl Try.underlying23 info22 rfl (by decide) (by omega) v271 y270 y274 _ _ _ (fun k_ => ((P0_ k_ ∨ P1_ k_) ∨ w.heap.size ≤ k_) ∧ some k_ ≠ (v265 : Value).ownBlock) (fun k_ => ((fun k_ => ((P0_ k_ ∨ P1_ k_) ∨ w.heap.size ≤ k_) ∧ some k_ ≠ (v265 : Value).ownBlock)) k_ ∧ some k_ ≠ (v271 : Value).ownBlock) rfl rfl ?aO ?aR (fun _ hk => hk) ?aF ?aB ?aS ?aL ?_
                              (case aR => exact (by skip; exact Kd.N_F (Kd.N_mono (ok' := (fun k_ => ((fun k_ => ((P0_ k_ ∨ P1_ k_) ∨ w.heap.size ≤ k_) ∧ some k_ ≠ (v265 : Value).ownBlock)) k_ ∧ some k_ ≠ (v271 : Value).ownBlock)) (HO276.out) (fun k_ hk => ⟨⟨hk.1, hk.2.1⟩, hk.2.2⟩))))
                              (case aB => exact (by repeat (with_reducible first | exact HB.out | apply bA | apply bN | apply bD)))
                              (case aF => exact (fun k_ hk => ⟨(.inr (Nat.le_trans (below_size (by repeat (with_reducible first | exact HB.out | apply bA | apply bN | apply bD))) hk)), Kd.fresh' (Kd.N_lt (by (with_reducible repeat (first | apply nA | apply nN | apply nD)); exact HO266.out)) k_ hk⟩))
                              (case aO => exact (by (with_reducible repeat (first | apply nA | apply nN | apply nD)); exact Kd.N_mono HO272.out (fun _ hk => ⟨hk.1, hk.2.1⟩)))
                              (case aS => exact (below_size (by repeat (with_reducible first | exact HB.out | apply bA | apply bN | apply bD))))
                              (case aL => have := LMc20.out; omega)
                              intro v278 w44 ho hb hg hat
                              have HS0_ := cell_grown hg (hHeld) (fun e_ => by obtain ⟨ad_, A_, c_, ee_, hx_, _, _⟩ := at_L1 (Kd.V_reads' hs1).2.2 _ (of_eq_true p273) (of_eq_true q273); cases ee_; exact absurd (World.block_lt_of_cell? _ _ hx_) (Nat.not_lt.mpr (Kd.N_base HO272.out _ e_.symm)))
                              rw [← Ny277.out] at ho
                              have n0_ := am (Kd.V_afterv (ok := (fun k_ => ((P0_ k_ ∨ P1_ k_) ∨ w.heap.size ≤ k_) ∧ some k_ ≠ (v265 : Value).ownBlock ∧ some k_ ≠ (.slice Ao45 y274.length co45 : Value).ownBlock)) (by (with_reducible repeat (first | apply vA | apply vN | apply vD)); exact Kd.V_mono HO_0.out (fun _ hk => ⟨⟨hk.1, ⟨hk.2.1, hk.2.2.2⟩⟩, hk.2.2.1⟩)) hg hat)
                              have n1_ := am (Kd.V_afterv (ok := (fun k_ => ((P0_ k_ ∨ P1_ k_) ∨ w.heap.size ≤ k_) ∧ some k_ ≠ (v265 : Value).ownBlock ∧ some k_ ≠ (.slice Ao45 y274.length co45 : Value).ownBlock)) (by (with_reducible repeat (first | apply vA | apply vN | apply vD)); exact Kd.V_mono HO_1.out (fun _ hk => ⟨⟨hk.1, ⟨hk.2.1, hk.2.2.2⟩⟩, hk.2.2.1⟩)) hg hat)
                              have n2_ := am (Kd.V_afterv (ok := (fun k_ => ((P0_ k_ ∨ P1_ k_) ∨ w.heap.size ≤ k_) ∧ some k_ ≠ (v265 : Value).ownBlock ∧ some k_ ≠ (.slice Ao45 y274.length co45 : Value).ownBlock)) (by (with_reducible repeat (first | apply vA | apply vN | apply vD)); exact Kd.V_mono HO255.out (fun _ hk => ⟨⟨hk.1, ⟨hk.2.1, hk.2.2.2⟩⟩, hk.2.2.1⟩)) hg hat)
                              have n3_ := am (Kd.V_afterv (ok := (fun k_ => ((P0_ k_ ∨ P1_ k_) ∨ w.heap.size ≤ k_) ∧ some k_ ≠ (v265 : Value).ownBlock ∧ some k_ ≠ (.slice Ao45 y274.length co45 : Value).ownBlock)) (by (with_reducible repeat (first | apply vA | apply vN | apply vD)); exact Kd.V_mono HO263.out (fun _ hk => ⟨⟨hk.1, ⟨hk.2.1, hk.2.2.2⟩⟩, hk.2.2.1⟩)) hg hat)
                              have n4_ := am (Kd.N_afterv (ok := (fun k_ => ((P0_ k_ ∨ P1_ k_) ∨ w.heap.size ≤ k_) ∧ some k_ ≠ (.slice Ao45 y274.length co45 : Value).ownBlock)) (by (with_reducible repeat (first | apply nA | apply nN | apply nD)); exact Kd.N_mono HO266.out (fun _ hk => ⟨⟨hk.1, hk.2.2⟩, hk.2.1⟩)) hg hat)
                              have n5_ := am (Kd.V_afterv (ok := (fun k_ => ((P0_ k_ ∨ P1_ k_) ∨ w.heap.size ≤ k_) ∧ some k_ ≠ (v265 : Value).ownBlock ∧ some k_ ≠ (.slice Ao45 y274.length co45 : Value).ownBlock)) (by (with_reducible repeat (first | apply vA | apply vN | apply vD)); exact Kd.V_mono HL273_0.out (fun _ hk => ⟨⟨hk.1, ⟨hk.2.1, hk.2.2.2⟩⟩, hk.2.2.1⟩)) hg hat)
                              have n6_ := am (Kd.N_afterv (ok := (fun k_ => ((P0_ k_ ∨ P1_ k_) ∨ w.heap.size ≤ k_) ∧ some k_ ≠ (v265 : Value).ownBlock)) (by (with_reducible repeat (first | apply nA | apply nN | apply nD)); exact Kd.N_mono HO276.out (fun _ hk => ⟨⟨hk.1, hk.2.1⟩, hk.2.2⟩)) hg hat)
                              have n7_ := am (hb)
                              have n8_ := am (ho)
                              clear HO_0
                              clear HO_1
                              clear HO255
                              clear HO263
                              clear HO266
                              clear HL273_0
                              clear HO276
                              clear HB
                              clear HO272
                              have HO_0 := n0_
                              have HO_1 := n1_
                              have HO255 := n2_
                              have HO263 := n3_
                              have HO266 := n4_
                              have HL273_0 := n5_
                              have HO276 := n6_
                              have HB := n7_
                              have HO279 := n8_
                              clear n0_ n1_ n2_ n3_ n4_ n5_ n6_ n7_ n8_
                              clear ho hb hg hat
                              refine hK.out _ _ (HS0_) (fun hHeld => ?_)
                              clear hK K
                              refine norm_ (a' := ?_) ?_ ?_
                              rotate_left
                              · show Act.put _ (some 46) _ = _
                                simp only [Act.put, List.setIfInBounds_toArray, List.set_cons_zero, List.set_cons_succ, i64_w, i32_w]
                                rfl
                              refine pure_ (i := 10) (N := some 10) (v := ?_) (a' := ?_) #[true, true, true, true, true, true, true, true, true, true, true] rfl rfl (any_of HT_.out (by kernel_rfl)) (fun _ _ _ h => h) (Or.inl ⟨by rfl, ?_⟩) ?_ ?_
                              rotate_left
                              · intro w'
                                go_simp
                                with_reducible rfl
                              rotate_left
                              · simp only [Act.put, List.setIfInBounds_toArray, List.set_cons_zero, List.set_cons_succ, i64_w, i32_w]
                                rfl
                              refine done_ (done_of HT_.out (by kernel_rfl)) ?_
                              try go_wp2_with (first | ((with_reducible refine gate_callee (f := 29) rfl ?_); refine goesL_ (some 49) rfl rfl Try.func29 (by kernel_rfl) rfl #[.slice A0 l0.length c0, .slice (some ad273) l1.length c1] rfl (by (try simp only [List.map_toArray, List.map_cons, List.map_nil]); first | done | rfl | (simp only [List.length_drop, List.length_take]; rfl)) ?_; (with_reducible refine (content_Differing.calls kj4 _ _ l0 (fun k_ => ((((P0_ k_ ∨ P1_ k_) ∨ w.heap.size ≤ k_) ∧ (some k_ ≠ (v265 : Value).ownBlock ∧ some k_ ≠ (.slice Ao45 y274.length co45 : Value).ownBlock)) ∧ some k_ ≠ (v278 : Value).ownBlock)) _ _ l1 t280 _ ?side1 ?side2 ?side3 A21.out).mono ?_); (case side1 => repeat (first | exact (Kd.V_reads' HO_0.out).2.2 | (with_reducible refine Kd.C_alloc ?_ _) | (with_reducible refine Kd.C_drewN ?_ _) | (with_reducible refine Kd.C_drew ?_))); (case side2 => exact (Kd.V_reads' HO_0.out).2.1); (case side3 => exact HO_1.out); rintro e w46 ⟨v281, rfl, ho0, hb⟩; refine ⟨_, rfl, ?_⟩; have n0_ := am (Kd.V_elder' (by (with_reducible repeat (first | apply vA | apply vN | apply vD)); exact HO_0.out) (Kd.N_base ho0) hb); have n1_ := am (Kd.V_elder' (by (with_reducible repeat (first | apply vA | apply vN | apply vD)); exact HO_1.out) (Kd.N_base ho0) hb); have n2_ := am (Kd.V_elder' (by (with_reducible repeat (first | apply vA | apply vN | apply vD)); exact HO255.out) (Kd.N_base ho0) hb); have n3_ := am (Kd.V_elder' (by (with_reducible repeat (first | apply vA | apply vN | apply vD)); exact HO263.out) (Kd.N_base ho0) hb); have n4_ := am (Kd.N_elder' (by (with_reducible repeat (first | apply nA | apply nN | apply nD)); exact HO266.out) (Kd.N_base ho0) hb); have n5_ := am (Kd.V_elder' (by (with_reducible repeat (first | apply vA | apply vN | apply vD)); exact HL273_0.out) (Kd.N_base ho0) hb); have n6_ := am (Kd.N_elder' (by (with_reducible repeat (first | apply nA | apply nN | apply nD)); exact HO276.out) (Kd.N_base ho0) hb); have n7_ := am (Kd.N_elder' (by (with_reducible repeat (first | apply nA | apply nN | apply nD)); exact HO279.out) (Kd.N_base ho0) hb); have n8_ := am (Kd.N_lower (Kd.N_mono (ok' := fun k_ => ((P0_ k_ ∨ P1_ k_) ∨ w.heap.size ≤ k_) ∧ some k_ ≠ (v265 : Value).ownBlock ∧ some k_ ≠ (.slice Ao45 y274.length co45 : Value).ownBlock ∧ some k_ ≠ (v278 : Value).ownBlock) ho0 (fun k_ hk_ => ⟨Or.elim hk_ (fun hs_ => hs_.1.1) (fun hn_ => (.inr (Nat.le_trans (below_size (by repeat (with_reducible first | exact HB.out | apply bA | apply bN | apply bD))) hn_))), Or.elim hk_ (fun hs_ => hs_.1.2.1) (fun hn_ => (Kd.fresh' (Kd.N_lt (by (with_reducible repeat (first | apply nA | apply nN | apply nD)); exact HO266.out)) k_ hn_)), Or.elim hk_ (fun hs_ => hs_.1.2.2) (fun hn_ => (Kd.fresh' (Kd.N_lt (by (with_reducible repeat (first | apply nA | apply nN | apply nD)); exact HO276.out)) k_ hn_)), Or.elim hk_ (fun hs_ => hs_.2) (fun hn_ => (Kd.fresh' (Kd.N_lt (by (with_reducible repeat (first | apply nA | apply nN | apply nD)); exact HO279.out)) k_ hn_))⟩)) (below_size (by repeat (with_reducible first | exact HB.out | apply bA | apply bN | apply bD)))); have n9_ := am (below_step (by repeat (with_reducible first | exact HB.out | apply bA | apply bN | apply bD)) hb); clear HO_0; clear HO_1; clear HO255; clear HO263; clear HO266; clear HL273_0; clear HO276; clear HO279; clear HB; have HO_0 := n0_; have HO_1 := n1_; have HO255 := n2_; have HO263 := n3_; have HO266 := n4_; have HL273_0 := n5_; have HO276 := n6_; have HO279 := n7_; have HO282 := n8_; have HB := n9_; clear n0_ n1_ n2_ n3_ n4_ n5_ n6_ n7_ n8_ n9_; (try clear hb); (try clear hb2); (try clear hk); (try clear hi); (try clear ho0); obtain ⟨Ao47, co47, eo47⟩ := Kd.N_slice HO266.out; subst eo47) | (go_at_call 30; (with_reducible refine (content_Kind.calls kj4 _ _ l0 _ _ y264 t283 _ ?side1 ?side2 ?side3 ?side4 A23.out).mono ?_); (case side1 => repeat (first | exact (Kd.V_reads' HO_0.out).2.2 | (with_reducible refine Kd.C_alloc ?_ _) | (with_reducible refine Kd.C_drewN ?_ _) | (with_reducible refine Kd.C_drew ?_))); (case side2 => exact (Kd.V_reads' HO_0.out).2.1); (case side3 => repeat (first | exact (Kd.N_reads' HO266.out).2.2 | (with_reducible refine Kd.C_alloc ?_ _) | (with_reducible refine Kd.C_drewN ?_ _) | (with_reducible refine Kd.C_drew ?_))); (case side4 => exact (Kd.N_reads' HO266.out).2.1); rintro e w48 ⟨rfl, hb⟩; have n0_ := am (Kd.V_below (by (with_reducible repeat (first | apply vA | apply vN | apply vD)); exact HO_0.out) hb); have n1_ := am (Kd.V_below (by (with_reducible repeat (first | apply vA | apply vN | apply vD)); exact HO_1.out) hb); have n2_ := am (Kd.V_below (by (with_reducible repeat (first | apply vA | apply vN | apply vD)); exact HO255.out) hb); have n3_ := am (Kd.V_below (by (with_reducible repeat (first | apply vA | apply vN | apply vD)); exact HO263.out) hb); have n4_ := am (Kd.N_below (by (with_reducible repeat (first | apply nA | apply nN | apply nD)); exact HO266.out) hb); have n5_ := am (Kd.V_below (by (with_reducible repeat (first | apply vA | apply vN | apply vD)); exact HL273_0.out) hb); have n6_ := am (Kd.N_below (by (with_reducible repeat (first | apply nA | apply nN | apply nD)); exact HO276.out) hb); have n7_ := am (Kd.N_below (by (with_reducible repeat (first | apply nA | apply nN | apply nD)); exact HO279.out) hb); have n8_ := am (Kd.N_below (by (with_reducible repeat (first | apply nA | apply nN | apply nD)); exact HO282.out) hb); have n9_ := am (below_step (by repeat (with_reducible first | exact HB.out | apply bA | apply bN | apply bD)) hb); clear HO_0; clear HO_1; clear HO255; clear HO263; clear HO266; clear HL273_0; clear HO276; clear HO279; clear HO282; clear HB; have HO_0 := n0_; have HO_1 := n1_; have HO255 := n2_; have HO263 := n3_; have HO266 := n4_; have HL273_0 := n5_; have HO276 := n6_; have HO279 := n7_; have HO282 := n8_; have HB := n9_; clear n0_ n1_ n2_ n3_ n4_ n5_ n6_ n7_ n8_ n9_; (try clear hb); (try clear hb2); (try clear hk); (try clear hi)) | (go_at_call 30; (with_reducible refine (content_Kind.calls kj4 _ _ l0 _ _ l1 t284 _ ?side1 ?side2 ?side3 ?side4 A24.out).mono ?_); (case side1 => repeat (first | exact (Kd.V_reads' HO_0.out).2.2 | (with_reducible refine Kd.C_alloc ?_ _) | (with_reducible refine Kd.C_drewN ?_ _) | (with_reducible refine Kd.C_drew ?_))); (case side2 => exact (Kd.V_reads' HO_0.out).2.1); (case side3 => repeat (first | exact (Kd.V_reads' HO_1.out).2.2 | (with_reducible refine Kd.C_alloc ?_ _) | (with_reducible refine Kd.C_drewN ?_ _) | (with_reducible refine Kd.C_drew ?_))); (case side4 => exact (Kd.V_reads' HO_1.out).2.1); rintro e w49 ⟨rfl, hb⟩; have n0_ := am (Kd.V_below (by (with_reducible repeat (first | apply vA | apply vN | apply vD)); exact HO_0.out) hb); have n1_ := am (Kd.V_below (by (with_reducible repeat (first | apply vA | apply vN | apply vD)); exact HO_1.out) hb); have n2_ := am (Kd.V_below (by (with_reducible repeat (first | apply vA | apply vN | apply vD)); exact HO255.out) hb); have n3_ := am (Kd.V_below (by (with_reducible repeat (first | apply vA | apply vN | apply vD)); exact HO263.out) hb); have n4_ := am (Kd.N_below (by (with_reducible repeat (first | apply nA | apply nN | apply nD)); exact HO266.out) hb); have n5_ := am (Kd.V_below (by (with_reducible repeat (first | apply vA | apply vN | apply vD)); exact HL273_0.out) hb); have n6_ := am (Kd.N_below (by (with_reducible repeat (first | apply nA | apply nN | apply nD)); exact HO276.out) hb); have n7_ := am (Kd.N_below (by (with_reducible repeat (first | apply nA | apply nN | apply nD)); exact HO279.out) hb); have n8_ := am (Kd.N_below (by (with_reducible repeat (first | apply nA | apply nN | apply nD)); exact HO282.out) hb); have n9_ := am (below_step (by repeat (with_reducible first | exact HB.out | apply bA | apply bN | apply bD)) hb); clear HO_0; clear HO_1; clear HO255; clear HO263; clear HO266; clear HL273_0; clear HO276; clear HO279; clear HO282; clear HB; have HO_0 := n0_; have HO_1 := n1_; have HO255 := n2_; have HO263 := n3_; have HO266 := n4_; have HL273_0 := n5_; have HO276 := n6_; have HO279 := n7_; have HO282 := n8_; have HB := n9_; clear n0_ n1_ n2_ n3_ n4_ n5_ n6_ n7_ n8_ n9_; (try clear hb); (try clear hb2); (try clear hk); (try clear hi)) | (go_at_call 29; (with_reducible refine (content_Differing.calls kj4 _ _ l0 (fun k_ => (((((P0_ k_ ∨ P1_ k_) ∨ w.heap.size ≤ k_) ∧ some k_ ≠ (.slice Ao45 y274.length co45 : Value).ownBlock) ∧ some k_ ≠ (v278 : Value).ownBlock) ∧ some k_ ≠ (v281 : Value).ownBlock)) _ _ y264 t285 _ ?side1 ?side2 ?side3 A26.out).mono ?_); (case side1 => repeat (first | exact (Kd.V_reads' HO_0.out).2.2 | (with_reducible refine Kd.C_alloc ?_ _) | (with_reducible refine Kd.C_drewN ?_ _) | (with_reducible refine Kd.C_drew ?_))); (case side2 => exact (Kd.V_reads' HO_0.out).2.1); (case side3 => exact Kd.N_V (HO266.out)); rintro e w50 ⟨v286, rfl, ho0, hb⟩; have n0_ := am (Kd.V_elder' (by (with_reducible repeat (first | apply vA | apply vN | apply vD)); exact HO_0.out) (Kd.N_base ho0) hb); have n1_ := am (Kd.V_elder' (by (with_reducible repeat (first | apply vA | apply vN | apply vD)); exact HO_1.out) (Kd.N_base ho0) hb); have n2_ := am (Kd.V_elder' (by (with_reducible repeat (first | apply vA | apply vN | apply vD)); exact HO255.out) (Kd.N_base ho0) hb); have n3_ := am (Kd.V_elder' (by (with_reducible repeat (first | apply vA | apply vN | apply vD)); exact HO263.out) (Kd.N_base ho0) hb); have n4_ := am (Kd.N_elder' (by (with_reducible repeat (first | apply nA | apply nN | apply nD)); exact HO266.out) (Kd.N_base ho0) hb); have n5_ := am (Kd.V_elder' (by (with_reducible repeat (first | apply vA | apply vN | apply vD)); exact HL273_0.out) (Kd.N_base ho0) hb); have n6_ := am (Kd.N_elder' (by (with_reducible repeat (first | apply nA | apply nN | apply nD)); exact HO276.out) (Kd.N_base ho0) hb); have n7_ := am (Kd.N_elder' (by (with_reducible repeat (first | apply nA | apply nN | apply nD)); exact HO279.out) (Kd.N_base ho0) hb); have n8_ := am (Kd.N_elder' (by (with_reducible repeat (first | apply nA | apply nN | apply nD)); exact HO282.out) (Kd.N_base ho0) hb); have n9_ := am (Kd.N_lower (Kd.N_mono (ok' := fun k_ => ((P0_ k_ ∨ P1_ k_) ∨ w.heap.size ≤ k_) ∧ some k_ ≠ (.slice Ao45 y274.length co45 : Value).ownBlock ∧ some k_ ≠ (v278 : Value).ownBlock ∧ some k_ ≠ (v281 : Value).ownBlock) ho0 (fun k_ hk_ => ⟨Or.elim hk_ (fun hs_ => hs_.1.1.1) (fun hn_ => (.inr (Nat.le_trans (below_size (by repeat (with_reducible first | exact HB.out | apply bA | apply bN | apply bD))) hn_))), Or.elim hk_ (fun hs_ => hs_.1.1.2) (fun hn_ => (Kd.fresh' (Kd.N_lt (by (with_reducible repeat (first | apply nA | apply nN | apply nD)); exact HO276.out)) k_ hn_)), Or.elim hk_ (fun hs_ => hs_.1.2) (fun hn_ => (Kd.fresh' (Kd.N_lt (by (with_reducible repeat (first | apply nA | apply nN | apply nD)); exact HO279.out)) k_ hn_)), Or.elim hk_ (fun hs_ => hs_.2) (fun hn_ => (Kd.fresh' (Kd.N_lt (by (with_reducible repeat (first | apply nA | apply nN | apply nD)); exact HO282.out)) k_ hn_))⟩)) (below_size (by repeat (with_reducible first | exact HB.out | apply bA | apply bN | apply bD)))); have n10_ := am (below_step (by repeat (with_reducible first | exact HB.out | apply bA | apply bN | apply bD)) hb); clear HO_0; clear HO_1; clear HO255; clear HO263; clear HO266; clear HL273_0; clear HO276; clear HO279; clear HO282; clear HB; have HO_0 := n0_; have HO_1 := n1_; have HO255 := n2_; have HO263 := n3_; have HO266 := n4_; have HL273_0 := n5_; have HO276 := n6_; have HO279 := n7_; have HO282 := n8_; have HO287 := n9_; have HB := n10_; clear n0_ n1_ n2_ n3_ n4_ n5_ n6_ n7_ n8_ n9_ n10_; (try clear hb); (try clear hb2); (try clear hk); (try clear hi); (try clear ho0); obtain ⟨Ao51, co51, eo51⟩ := Kd.N_slice HO287.out; subst eo51; obtain ⟨Ao52, co52, eo52⟩ := Kd.N_slice HO282.out; subst eo52; obtain ⟨Ao53, co53, eo53⟩ := Kd.N_slice HO279.out; subst eo53) | (go_at_call 29; (with_reducible refine (content_Differing.calls kj4 _ _ l0 (fun k_ => (((((P0_ k_ ∨ P1_ k_) ∨ w.heap.size ≤ k_) ∧ some k_ ≠ (.slice Ao47 y264.length co47 : Value).ownBlock) ∧ some k_ ≠ (.slice Ao52 t280.length co52 : Value).ownBlock) ∧ some k_ ≠ (.slice Ao51 t285.length co51 : Value).ownBlock)) _ _ y277 t288 _ ?side1 ?side2 ?side3 A28.out).mono ?_); (case side1 => repeat (first | exact (Kd.V_reads' HO_0.out).2.2 | (with_reducible refine Kd.C_alloc ?_ _) | (with_reducible refine Kd.C_drewN ?_ _) | (with_reducible refine Kd.C_drew ?_))); (case side2 => exact (Kd.V_reads' HO_0.out).2.1); (case side3 => exact Kd.N_V (HO279.out)); rintro e w54 ⟨v289, rfl, ho0, hb⟩; have n0_ := am (Kd.V_elder' (by (with_reducible repeat (first | apply vA | apply vN | apply vD)); exact HO_0.out) (Kd.N_base ho0) hb); have n1_ := am (Kd.V_elder' (by (with_reducible repeat (first | apply vA | apply vN | apply vD)); exact HO_1.out) (Kd.N_base ho0) hb); have n2_ := am (Kd.V_elder' (by (with_reducible repeat (first | apply vA | apply vN | apply vD)); exact HO255.out) (Kd.N_base ho0) hb); have n3_ := am (Kd.V_elder' (by (with_reducible repeat (first | apply vA | apply vN | apply vD)); exact HO263.out) (Kd.N_base ho0) hb); have n4_ := am (Kd.N_elder' (by (with_reducible repeat (first | apply nA | apply nN | apply nD)); exact HO266.out) (Kd.N_base ho0) hb); have n5_ := am (Kd.V_elder' (by (with_reducible repeat (first | apply vA | apply vN | apply vD)); exact HL273_0.out) (Kd.N_base ho0) hb); have n6_ := am (Kd.N_elder' (by (with_reducible repeat (first | apply nA | apply nN | apply nD)); exact HO276.out) (Kd.N_base ho0) hb); have n7_ := am (Kd.N_elder' (by (with_reducible repeat (first | apply nA | apply nN | apply nD)); exact HO279.out) (Kd.N_base ho0) hb); have n8_ := am (Kd.N_elder' (by (with_reducible repeat (first | apply nA | apply nN | apply nD)); exact HO282.out) (Kd.N_base ho0) hb); have n9_ := am (Kd.N_elder' (by (with_reducible repeat (first | apply nA | apply nN | apply nD)); exact HO287.out) (Kd.N_base ho0) hb); have n10_ := am (Kd.N_lower (Kd.N_mono (ok' := fun k_ => ((P0_ k_ ∨ P1_ k_) ∨ w.heap.size ≤ k_) ∧ some k_ ≠ (.slice Ao47 y264.length co47 : Value).ownBlock ∧ some k_ ≠ (.slice Ao52 t280.length co52 : Value).ownBlock ∧ some k_ ≠ (.slice Ao51 t285.length co51 : Value).ownBlock) ho0 (fun k_ hk_ => ⟨Or.elim hk_ (fun hs_ => hs_.1.1.1) (fun hn_ => (.inr (Nat.le_trans (below_size (by repeat (with_reducible first | exact HB.out | apply bA | apply bN | apply bD))) hn_))), Or.elim hk_ (fun hs_ => hs_.1.1.2) (fun hn_ => (Kd.fresh' (Kd.N_lt (by (with_reducible repeat (first | apply nA | apply nN | apply nD)); exact HO266.out)) k_ hn_)), Or.elim hk_ (fun hs_ => hs_.1.2) (fun hn_ => (Kd.fresh' (Kd.N_lt (by (with_reducible repeat (first | apply nA | apply nN | apply nD)); exact HO282.out)) k_ hn_)), Or.elim hk_ (fun hs_ => hs_.2) (fun hn_ => (Kd.fresh' (Kd.N_lt (by (with_reducible repeat (first | apply nA | apply nN | apply nD)); exact HO287.out)) k_ hn_))⟩)) (below_size (by repeat (with_reducible first | exact HB.out | apply bA | apply bN | apply bD)))); have n11_ := am (below_step (by repeat (with_reducible first | exact HB.out | apply bA | apply bN | apply bD)) hb); clear HO_0; clear HO_1; clear HO255; clear HO263; clear HO266; clear HL273_0; clear HO276; clear HO279; clear HO282; clear HO287; clear HB; have HO_0 := n0_; have HO_1 := n1_; have HO255 := n2_; have HO263 := n3_; have HO266 := n4_; have HL273_0 := n5_; have HO276 := n6_; have HO279 := n7_; have HO282 := n8_; have HO287 := n9_; have HO290 := n10_; have HB := n11_; clear n0_ n1_ n2_ n3_ n4_ n5_ n6_ n7_ n8_ n9_ n10_ n11_; (try clear hb); (try clear hb2); (try clear hk); (try clear hi); (try clear ho0); obtain ⟨Ao55, co55, eo55⟩ := Kd.N_slice HO290.out; subst eo55) | (go_at_call 28; (with_reducible refine (sennitref06_All.calls kj4 _ _ t288 _ _ t280 t291 _ ?side1 ?side2 ?side3 ?side4 A29.out).mono ?_); (case side1 => repeat (first | exact (Kd.N_reads' HO290.out).2.2 | (with_reducible refine Kd.C_alloc ?_ _) | (with_reducible refine Kd.C_drewN ?_ _) | (with_reducible refine Kd.C_drew ?_))); (case side2 => exact (Kd.N_reads' HO290.out).2.1); (case side3 => repeat (first | exact (Kd.N_reads' HO282.out).2.2 | (with_reducible refine Kd.C_alloc ?_ _) | (with_reducible refine Kd.C_drewN ?_ _) | (with_reducible refine Kd.C_drew ?_))); (case side4 => exact (Kd.N_reads' HO282.out).2.1); rintro e w' ⟨rfl, ⟨nd, rfl⟩⟩))
                              go_ret
                              exact ⟨by first | rfl | (simp [errW_none, errW_some] <;> rfl) | (simp only [← hji11]; first | rfl | (simp [errW_none, errW_some] <;> rfl)) | (simp [*, errW_none, errW_some] <;> rfl), by repeat (with_reducible first | exact HB.out | apply bA | apply bN | apply bD)⟩
                            · rw [if_neg c27] at H
                              have c27b0 : ((t285.length : Int) == (t280.length : Int)) = false := beq_eq_false_iff_ne.mpr c27
                              have c27b1 : ((t285.length : Int) != (t280.length : Int)) = true := bne_iff_ne.mpr c27
                              have c27b2 : (t285.length == t280.length) = false := by first | simpa using c27 | (simp at c27 ⊢; omega)
                              exact absurd H (by simp)
                          · rw [if_neg c25] at H
                            have c25b0 : (t283 == t284) = false := beq_eq_false_iff_ne.mpr c25
                            have c25b1 : (t283 != t284) = true := bne_iff_ne.mpr c25
                            exact absurd H (by simp)
                        · replace c22 := Bool.eq_false_iff.mpr c22
                          subst c22
                          have H1 : (none) = some r := by rw [if_neg (show ¬ (false = true) by decide)] at H; exact H
                          clear H
                          have H := H1
                          clear H1
                          exact absurd H (by simp)
                      · rw [if_neg c20] at H
                        exact absurd H (by simp)
                    · rw [if_neg c19] at H
                      exact absurd H (by simp)
                  · rw [if_neg c18] at H
                    exact absurd H (by simp)
                · rw [if_neg c17] at H
                  exact absurd H (by simp)
              · rw [if_neg c14] at H
                exact absurd H (by simp)
            · rw [if_neg c13] at H
              exact absurd H (by simp)
          · rw [if_neg c12] at H
            exact absurd H (by simp)

end Go.Proofs.Ytiaoppikdgoieaa.M
namespace Go.Proofs.Ytiaoppikdgoieaa.Pure
open Go.RowKit Go.Proofs.Ytiaoppikdgoieaa.M Go.Proofs.Ytiaoppikdgoieaa.Hand Go.Proofs.YtiaoppikdgoieaaW.PrintWords Go.Proofs.YtiaoppikdgoieaaW.PrintLast Go.Proofs.YtiaoppikdgoieaaW.PrintMore
set_option linter.unusedVariables false

theorem rdT35 (xs : List S35) (i : Nat) (h : i < xs.length) : rd_T35 xs (i : Int) = xs[i] := by
  simp [rd_T35, List.getD_eq_getElem?_getD, h]
theorem within_f (f t : Int) (n : Nat) : sennitref06_within.f f t (n : Int) = some (spanB f t n) := by
  unfold sennitref06_within.f spanB
  by_cases h1 : f ≥ 0
  · rw [if_pos h1, decide_eq_true (show (0 : Int) ≤ f from h1)]
    by_cases h2 : f ≤ t
    · rw [if_pos h2, decide_eq_true h2]; simp
    · rw [if_neg h2, decide_eq_false h2]; simp
  · rw [if_neg h1, decide_eq_false (show ¬ (0 : Int) ≤ f from h1)]; simp
theorem cut_eq {f t : Int} {l : List ByteArray} (h : spanB f t l.length = true) : cutL f t l = (l.take t.toNat).drop f.toNat := by unfold cutL; rw [if_pos h]
theorem span_facts {f t : Int} {n : Nat} (h : spanB f t n = true) : 0 ≤ f ∧ f ≤ t ∧ t ≤ (n : Int) := by
  simp only [spanB, Bool.and_eq_true, decide_eq_true_eq] at h
  exact ⟨h.1.1, h.1.2, h.2⟩
theorem drop_both {α β γ : Type} (g : α → β → γ) (a : List α) (b : List β) (i : Nat) (ha : i < a.length) (hb : i < b.length) : List.zipWith g (a.drop i) (b.drop i) = g a[i] b[i] :: List.zipWith g (a.drop (i + 1)) (b.drop (i + 1)) := by
  rw [List.drop_eq_getElem_cons ha, List.drop_eq_getElem_cons hb]; rfl
theorem parts_l1 (c0 : Bool) (f t : Int) (b : List ByteArray) (l : List (List ByteArray)) (sp : List S35) (hl : sp.length = l.length) (hn : l.length ≤ 1000) (hb : spanB f t b.length = true) (hs : ∀ i (h1 : i < sp.length) (h2 : i < l.length), spanB sp[i].f0 sp[i].f1 l[i].length = true) (d : Nat) :
    ∀ (i k : Nat) (acc : List (List ByteArray)), i + d = l.length → acc.length = i → d < k → sennitref06_Parts.l1 k b l acc (i : Int) c0 f t sp = some (cutL f t b, acc ++ cutsL (sp.drop i) (l.drop i), 0) := by
  induction d with
  | zero =>
    intro i k acc hi ha hk
    obtain ⟨k, rfl⟩ : ∃ m, k = m + 1 := ⟨k - 1, by omega⟩
    obtain ⟨h1, h2, h3⟩ := span_facts hb
    rw [sennitref06_Parts.l1, if_neg (by omega), if_pos h1, if_pos h2, if_pos h3, cut_eq hb, List.drop_of_length_le (show l.length ≤ i by omega)]
    simp [cutsL]
  | succ d ih =>
    intro i k acc hi ha hk
    obtain ⟨k, rfl⟩ : ∃ m, k = m + 1 := ⟨k - 1, by omega⟩
    have hlt : i < l.length := by omega
    have hlt2 : i < sp.length := by omega
    obtain ⟨h1, h2, h3⟩ := span_facts (hs i hlt2 hlt)
    rw [sennitref06_Parts.l1, if_pos (by omega), if_pos (by omega), if_pos (by omega), rdT35 _ _ hlt2, rdL1 _ _ hlt, if_pos h1, if_pos h2, if_pos h3, if_pos (by omega), wrap_succ hlt (by omega), ih (i + 1) k _ (by omega) (by simp; omega) (by omega)]
    unfold cutsL
    rw [drop_both _ sp l i hlt2 hlt, cut_eq (hs i hlt2 hlt)]
    simp
theorem parts_l0 (c0 : Bool) (f t : Int) (b : List ByteArray) (l : List (List ByteArray)) (sp : List S35) (hl : sp.length = l.length) (hn : l.length ≤ 1000) (d : Nat) :
    ∀ (i k : Nat) (ok : Bool), i + d = l.length → sennitref06_Parts.l0 (k + d + 1) b l ok (i : Int) c0 f t sp =
      if (ok && spansB (sp.drop i) (l.drop i)) = true then sennitref06_Parts.l1 k b l [] 0 c0 f t sp else some ([], [], 3) := by
  induction d with
  | zero =>
    intro i k ok hi
    have : spansB (sp.drop i) (l.drop i) = true := by rw [List.drop_of_length_le (show l.length ≤ i by omega)]; simp [spansB]
    rw [sennitref06_Parts.l0, if_neg (by omega), this, Bool.and_true]
  | succ d ih =>
    intro i k ok hi
    have hlt : i < l.length := by omega
    have hlt2 : i < sp.length := by omega
    have hc : spansB (sp.drop i) (l.drop i) = (spanB sp[i].f0 sp[i].f1 l[i].length && spansB (sp.drop (i + 1)) (l.drop (i + 1))) := by
      unfold spansB; rw [drop_both _ sp l i hlt2 hlt]; simp
    rw [show k + (d + 1) + 1 = (k + d + 1) + 1 by omega, sennitref06_Parts.l0, if_pos (by omega), wrap_succ hlt (by omega), hc]
    cases ok with
    | true => rw [if_pos rfl, if_pos (by omega), if_pos (by omega), rdT35 _ _ hlt2, rdL1 _ _ hlt, within_f, Option.bind_some, ih (i + 1) k _ (by omega), Bool.true_and]
    | false => rw [if_neg (by decide), ih (i + 1) k _ (by omega), Bool.false_and, Bool.false_and]
theorem spansB_all {sp : List S35} {l : List (List ByteArray)} (h : spansB sp l = true) : ∀ i (h1 : i < sp.length) (h2 : i < l.length), spanB sp[i].f0 sp[i].f1 l[i].length = true := by
  intro i h1 h2
  unfold spansB at h
  have := List.all_eq_true.1 h (spanB sp[i].f0 sp[i].f1 l[i].length) (by
    refine List.mem_of_getElem? (i := i) ?_
    simp [List.getElem?_zipWith, h1, h2])
  simpa using this
theorem parts_f (c0 : Bool) (f t : Int) (sp : List S35) (b : List ByteArray) (l : List (List ByteArray)) (hn : l.length ≤ 10) (k : Nat) (hk : 100 ≤ k) : sennitref06_Parts.f k c0 f t sp b l = some (partsG f t sp b l) := by
  unfold sennitref06_Parts.f partsG
  by_cases hl : sp.length = l.length
  · rw [if_pos (by omega), if_pos hl, within_f, Option.bind_some]
    obtain ⟨q, rfl⟩ : ∃ q, k = q + l.length + 1 := ⟨k - l.length - 1, by omega⟩
    have := parts_l0 c0 f t b l sp hl (by omega) l.length 0 q (spanB f t b.length) (by omega)
    rw [show ((0 : Nat) : Int) = 0 from rfl] at this
    rw [this, List.drop_zero, List.drop_zero]
    by_cases hc : (spanB f t b.length && spansB sp l) = true
    · rw [if_pos hc, if_pos hc]
      simp only [Bool.and_eq_true] at hc
      have := parts_l1 c0 f t b l sp hl (by omega) hc.1 (spansB_all hc.2) l.length 0 q [] (by omega) rfl (by omega)
      simpa using this
    · rw [if_neg hc, if_neg hc]
  · rw [if_neg (by omega), if_neg hl]
theorem Parts_f (c0 : Bool) (f t : Int) (sp : List S35) (b : List ByteArray) (l : List (List ByteArray)) (hn : l.length ≤ 1000) (k : Nat) : content_Parts.f k c0 f t sp b l = some (partsG f t sp b l) := by
  unfold content_Parts.f; rw [if_pos (by omega)]
theorem Kind_f (l0 : List ByteArray) (l1 : List (List ByteArray)) (hn : l1.length ≤ 1000) (k : Nat) : content_Kind.f k l0 l1 = some (mn ((othersG l0 l1 []).length : Int) 2) := by
  unfold content_Kind.f; rw [Differing_f l0 l1 hn, Option.bind_some]
theorem awake06 (k : Nat) : sennitlaw06_awake.f k = some true := by
  unfold sennitlaw06_awake.f
  rw [Differing_f _ _ (by decide), Option.bind_some, Parts_f _ _ _ _ _ _ (by decide), Option.bind_some, Kind_f _ _ (by decide)]
  have e1 : othersG [(⟨#[97]⟩ : ByteArray)] [[(⟨#[98]⟩ : ByteArray)], [(⟨#[97]⟩ : ByteArray)], [(⟨#[98]⟩ : ByteArray)]] [] = [[(⟨#[98]⟩ : ByteArray)]] := by decide
  have e2 : partsG 1 2 [(⟨0, 1⟩ : S35)] [(⟨#[97]⟩ : ByteArray), (⟨#[98]⟩ : ByteArray)] [[(⟨#[99]⟩ : ByteArray)]] = ([(⟨#[98]⟩ : ByteArray)], [[(⟨#[99]⟩ : ByteArray)]], 0) := by decide
  have e3 : othersG ([] : List ByteArray) [[(⟨#[97]⟩ : ByteArray)], [(⟨#[98]⟩ : ByteArray)]] [] = [[(⟨#[97]⟩ : ByteArray)], [(⟨#[98]⟩ : ByteArray)]] := by decide
  rw [e1, e2, e3]
  simp [ByteArray.toList_eq, rdOf, rd_L1, mn]
end Go.Proofs.Ytiaoppikdgoieaa.Pure
namespace Go.Proofs.Ytiaoppikdgoieaa.Pure
open Go.RowKit Go.Proofs.Ytiaoppikdgoieaa.M Go.Proofs.Ytiaoppikdgoieaa.Hand Go.Proofs.YtiaoppikdgoieaaW.PrintWords Go.Proofs.YtiaoppikdgoieaaW.PrintLast Go.Proofs.YtiaoppikdgoieaaW.PrintMore
set_option linter.unusedVariables false
theorem othersG_iff (x : List ByteArray) (l : List (List ByteArray)) (z : List ByteArray) : z ∈ othersG x l [] ↔ z ∈ l ∧ z ≠ x := by
  constructor
  · intro h
    rcases othersG_mem x l [] z h with h | h
    · cases h
    · exact h
  · rintro ⟨h, hn⟩
    rcases othersG_all x l [] z h with h | h
    · exact absurd h hn
    · exact h
theorem othersG_turn (x : List ByteArray) (l m : List (List ByteArray)) (h : ∀ z, z ∈ l ↔ z ∈ m) : (othersG x l []).length = (othersG x m []).length :=
  List.Perm.length_eq ((List.perm_ext_iff_of_nodup (othersG_nodup _ _ _ List.nodup_nil) (othersG_nodup _ _ _ List.nodup_nil)).2 fun z => by rw [othersG_iff, othersG_iff, h z])
theorem othersG_append (x : List ByteArray) (l m acc : List (List ByteArray)) : othersG x (l ++ m) acc = othersG x m (othersG x l acc) := by
  induction l generalizing acc with
  | nil => rfl
  | cons y l ih => simp only [List.cons_append, othersG]; exact ih _
theorem othersG_more (x : List ByteArray) (l : List (List ByteArray)) (y : List ByteArray) (h : y ∈ l) : othersG x (l ++ [y, x]) [] = othersG x l [] := by
  rw [othersG_append]
  have h1 : (decide (y = x) || (othersG x l []).any fun z => decide (y = z)) = true := by
    by_cases e : y = x
    · simp [e]
    · have := (othersG_iff x l y).2 ⟨h, e⟩
      rw [Bool.or_eq_true, List.any_eq_true]
      exact .inr ⟨y, this, by simp⟩
  have h2 : ∀ acc : List (List ByteArray), (decide (x = x) || acc.any fun z => decide (x = z)) = true := fun acc => by simp
  rw [othersG, if_pos h1, othersG, if_pos (h2 _), othersG]
theorem ContentTurn (l0 : List ByteArray) (n0 : l0.length ≤ 9223372036854775807) (o0 : ∀ s ∈ l0, s.size ≤ 9223372036854775807) (l1 : List (List ByteArray)) (n1 : l1.length ≤ 9223372036854775807) (o1 : ∀ x ∈ l1, x.length ≤ 9223372036854775807 ∧ ∀ s ∈ x, s.size ≤ 9223372036854775807) (a2 : Int) (o2 : (Lit.int .u8 a2).wf = true) : ∃ k, sennitlaw06_ContentTurn.f k l0 l1 a2 = some true := by
  obtain ⟨b, hb, hB⟩ := few06_f l0 l1 n0 n1 (fun x hx => (o1 x hx).1)
  refine ⟨1001, ?_⟩
  unfold sennitlaw06_ContentTurn.f
  rw [awake06, Option.bind_some, hb _ (by omega), Option.bind_some]
  cases b with
  | false => rfl
  | true =>
    obtain ⟨h1, h2, h3⟩ := hB rfl
    by_cases hz : l1.length = 0
    · rw [if_pos rfl, hz]; rfl
    have hM : ∀ x ∈ l1, x.length < 21 := fun x hx => by have := (h3 x hx).1; omega
    have hw : 0 ≤ a2 ∧ a2 ≤ 255 := by
      simp [Lit.wf, IntKind.min, IntKind.max, IntKind.signed, IntKind.bits] at o2
      omega
    have hwr : wrap64 a2 = a2 := by
      have := hw
      unfold wrap64
      omega
    obtain ⟨n, hn, hlt⟩ : ∃ n : Nat, Int.tmod (wrap64 a2) (l1.length : Int) = (n : Int) ∧ n < l1.length := by
      rw [hwr, Int.tmod_eq_emod_of_nonneg hw.1]
      refine ⟨(a2 % (l1.length : Int)).toNat, ?_, ?_⟩
      · have := Int.emod_nonneg a2 (show (l1.length : Int) ≠ 0 by omega)
        omega
      · have := Int.emod_lt_of_pos a2 (show (0 : Int) < l1.length by omega)
        omega
    rw [if_pos rfl, show ((l1.length : Int) == 0) = false from beq_eq_false_iff_ne.mpr (by omega), sennitlaw06_ContentTurn.j0, if_neg (by decide), if_neg (by omega), Option.bind_some, hn, if_pos (by omega), if_pos (by omega), Option.bind_some, if_pos (by simp; omega), Option.bind_some, Option.bind_some, if_pos (by simp; omega), Option.bind_some, Option.bind_some, if_pos (by simp; omega), Option.bind_some, if_pos (by omega), Option.bind_some, if_pos (by simp; omega), rdL1 _ _ hlt]
    simp only [List.nil_append, Int.toNat_natCast]
    have hT : ∀ z, z ∈ l1.drop n ++ l1.take n ↔ z ∈ l1 := fun z => by
      rw [List.mem_append, or_comm, ← List.mem_append, List.take_append_drop]
    have hTl : (l1.drop n ++ l1.take n).length ≤ 1000 := by simp; omega
    have hG := othersG_len l0 l1 []
    simp at hG
    have hGM : ∀ x ∈ othersG l0 l1 [], x.length < 21 := fun x hx => hM x ((othersG_iff _ _ _).1 hx).1
    rw [Differing_f l0 l1 (by omega), Option.bind_some, if_pos trivial, Kind_f l0 _ hTl, Option.bind_some, Kind_f l0 l1 (by omega), Option.bind_some, othersG_turn l0 _ l1 hT, if_pos rfl, Differing_f l0 _ hTl, Option.bind_some, othersG_turn l0 _ l1 hT, if_pos rfl, Differing_f l0 (l1 ++ [l1[n], l0]) (by simp; omega), Option.bind_some, othersG_more l0 l1 _ (List.getElem_mem hlt), all_f _ _ 21 hGM (by omega) (by omega) _ (by omega), Option.bind_some]
    simp
end Go.Proofs.Ytiaoppikdgoieaa.Pure
