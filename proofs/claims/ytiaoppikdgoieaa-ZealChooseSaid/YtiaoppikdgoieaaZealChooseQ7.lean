/- Texts of the claim ZealChoose, put together (part 7): By a program of this session: a Go function as a Lean function, and that the machine's call does what it says. pick.Same's closures: are two lists of lists, are two pieces the same. -/
import Derived.ArgAppend
import Derived.Below
import Derived.BigQuiet
import Derived.Deep.AppendLies
import Derived.Deep.CutBlock
import Derived.Deep.DeepCutAuto
import Derived.Deep.Draws
import Derived.Deep.LoopGhost
import Derived.Deep.OwnRows
import Derived.Deep.QuietTactic
import Derived.Deep.RegionHeld3
import Derived.KernelRfl
import Derived.Laws.BitsLemmas
import Derived.Laws.BytesArg
import Derived.Laws.IdiomCopy
import Derived.Laws.MakeOwn
import Derived.Laws.OwnMore
import Derived.Laws.Rows
import Derived.Laws.Slices
import Derived.Lib.AppendStr
import Derived.Lib.ConvBytes
import Derived.Maps.AppendAt
import Derived.OrdersHeld
import Derived.OwnWalk
import Derived.RangeFuncBox
import Derived.RowKit
import Derived.RowKit3
import Derived.Tactics
import Derived.Test.YtiaoppikdgoieaaProg
import Derived.Test.YtiaoppikdgoieaaWApart
import Derived.Test.YtiaoppikdgoieaaWArr
import Derived.Test.YtiaoppikdgoieaaWAt
import Derived.Test.YtiaoppikdgoieaaWEqStruct
import Derived.Test.YtiaoppikdgoieaaWFoot
import Derived.Test.YtiaoppikdgoieaaWFootNe
import Derived.Test.YtiaoppikdgoieaaWFour
import Derived.Test.YtiaoppikdgoieaaWGuard
import Derived.Test.YtiaoppikdgoieaaWInv
import Derived.Test.YtiaoppikdgoieaaWInvWords
import Derived.Test.YtiaoppikdgoieaaWKept
import Derived.Test.YtiaoppikdgoieaaWLast
import Derived.Test.YtiaoppikdgoieaaWMore
import Derived.Test.YtiaoppikdgoieaaWN
import Derived.Test.YtiaoppikdgoieaaWNEv
import Derived.Test.YtiaoppikdgoieaaWQPut
import Derived.Test.YtiaoppikdgoieaaWRepsOne
import Derived.Test.YtiaoppikdgoieaaWShare
import Derived.Test.YtiaoppikdgoieaaWTab
import Derived.Test.YtiaoppikdgoieaaWWords
import Derived.Test.YtiaoppikdgoieaaWZeros
import Derived.WalkKit
import Derived.WideLaws
import Derived.Test.YtiaoppikdgoieaaZealChooseQ6
namespace Go.Proofs.Ytiaoppikdgoieaa.M
open Go.RowKit Go.Proofs.YtiaoppikdgoieaaW.PrintWords Go.Proofs.YtiaoppikdgoieaaW.PrintLast Go.Proofs.YtiaoppikdgoieaaW.PrintMore Go.Proofs.Ytiaoppikdgoieaa.Hand
attribute [local go_sem] max2_int min2_int max_two min_two max_three min_three max_four min_four
set_option linter.unusedVariables false
set_option linter.unusedSimpArgs false

/-! ### sennitlaw10_ZealChoose: function 14 -/
def sennitlaw10_ZealChoose.l0 : Nat → List (S27) → Bool → Int → Int → Option (Bool)
  | 0, _, _, _, _ => none
  | k + 1, x0, x5, x6, x7 => if x7 < (x0.length : Int) then (if 0 ≤ x7 then (if (rd_T27 x0 x7).f0 = true then (if (((rd_T27 x0 x7).f3).length : Int) < x6 then (some x5) else (sennitlaw10_ZealChoose.l0 k x0 x5 x6 (wrap64 (x7 + 1)))) else (sennitlaw10_ZealChoose.l0 k x0 x5 x6 (wrap64 (x7 + 1)))) else (none)) else (if x5 = true then ((zeal_Zeal.f k x0).bind fun t634 => ((pick_Choose.f k t634 x6).bind fun t637 => ((sennitref07_Choose.f k x0 x6).bind fun t640 => ((sennitref01_Same.f k t637 t640).bind fun t643 => (some t643))))) else (some false))
def sennitlaw10_ZealChoose.f (k : Nat) (l0 : List (S27)) (a1 : Int) : Option (Bool) := (sennitlaw10_awake.f k).bind fun t630 => ((sennitref07_Few.f k l0).bind fun t631 => (if t631 = true then (sennitlaw10_ZealChoose.l0 k l0 t630 (wrap64 (1 + (Int.tmod (wrap64 (a1)) 6))) 0) else (some t630)))
theorem sennitlaw10_ZealChoose.mono_l : ∀ k, (∀ y0 y1 y2 y3, LeO (sennitlaw10_ZealChoose.l0 k y0 y1 y2 y3) (sennitlaw10_ZealChoose.l0 (k + 1) y0 y1 y2 y3))
  | 0 => fun _ _ _ _ r h => by simp [sennitlaw10_ZealChoose.l0] at h
  | k + 1 => by
    have ih0 := sennitlaw10_ZealChoose.mono_l k
    · intro y0 y1 y2 y3
      unfold sennitlaw10_ZealChoose.l0
      repeat' first
      | (with_reducible exact ih0 _ _ _ _)
      | (with_reducible exact pick_Choose.mono _ _ _)
      | (with_reducible exact sennitlaw10_awake.mono _)
      | (with_reducible exact sennitref01_Same.mono _ _ _)
      | (with_reducible exact sennitref07_Choose.mono _ _ _)
      | (with_reducible exact sennitref07_Few.mono _ _)
      | (with_reducible exact zeal_Zeal.mono _ _)
      | (with_reducible exact LeO.refl _)
      | (with_reducible exact LeO.none _)
      | (with_reducible refine LeO.ite ?_ ?_)
      | (with_reducible refine LeO.bind ?_ (fun _ => ?_))
      | exact ih0 _ _ _ _
      | exact pick_Choose.mono _ _ _
      | exact sennitlaw10_awake.mono _
      | exact sennitref01_Same.mono _ _ _
      | exact sennitref07_Choose.mono _ _ _
      | exact sennitref07_Few.mono _ _
      | exact zeal_Zeal.mono _ _
      | exact LeO.none _
      | refine LeO.ite ?_ ?_
      | refine LeO.bind ?_ (fun _ => ?_)
theorem sennitlaw10_ZealChoose.mono : ∀ a0 a1 k, LeO (sennitlaw10_ZealChoose.f k a0 a1) (sennitlaw10_ZealChoose.f (k + 1) a0 a1) := by
  intro a0 a1 k
  have ih0 := sennitlaw10_ZealChoose.mono_l k
  unfold sennitlaw10_ZealChoose.f
  repeat' first
      | (with_reducible exact ih0 _ _ _ _)
      | (with_reducible exact pick_Choose.mono _ _ _)
      | (with_reducible exact sennitlaw10_awake.mono _)
      | (with_reducible exact sennitref01_Same.mono _ _ _)
      | (with_reducible exact sennitref07_Choose.mono _ _ _)
      | (with_reducible exact sennitref07_Few.mono _ _)
      | (with_reducible exact zeal_Zeal.mono _ _)
      | (with_reducible exact LeO.refl _)
      | (with_reducible exact LeO.none _)
      | (with_reducible refine LeO.ite ?_ ?_)
      | (with_reducible refine LeO.bind ?_ (fun _ => ?_))
      | exact ih0 _ _ _ _
      | exact pick_Choose.mono _ _ _
      | exact sennitlaw10_awake.mono _
      | exact sennitref01_Same.mono _ _ _
      | exact sennitref07_Choose.mono _ _ _
      | exact sennitref07_Few.mono _ _
      | exact zeal_Zeal.mono _ _
      | exact LeO.none _
      | refine LeO.ite ?_ ?_
      | refine LeO.bind ?_ (fun _ => ?_)
set_option maxHeartbeats 8000000 in
set_option maxRecDepth 100000 in
theorem sennitlaw10_ZealChoose.calls (k : Nat) (A0 : Option Addr) (c0 : Nat) (l0 : List (S27)) (a1 : Int) (r : Bool) (w : World) (hr0 : Kd.C k27 w A0 l0.length l0) (hc0 : l0.length ≤ c0) (h : sennitlaw10_ZealChoose.f k l0 a1 = some r) :
    Calls Try.prog 14 #[.slice A0 l0.length c0, .int .u8 a1] w fun e w' => e = .returned (.bool r) ∧ Below w.heap.size w w' := by
  have HR0 := am hr0
  have HC0 := am hc0
  clear hr0 hc0
  have HB := am (Below.refl w.heap.size w)
  have H : ((sennitlaw10_awake.f k).bind fun t630 => ((sennitref07_Few.f k l0).bind fun t631 => (if t631 = true then (sennitlaw10_ZealChoose.l0 k l0 t630 (wrap64 (1 + (Int.tmod (wrap64 (a1)) 6))) 0) else (some t630)))) = some r := h
  clear h
  replace H := Option.bind_eq_some_iff.mp H
  obtain ⟨t630, A30, H⟩ := H
  replace H : ((sennitref07_Few.f k l0).bind fun t631 => (if t631 = true then (sennitlaw10_ZealChoose.l0 k l0 t630 (wrap64 (1 + (Int.tmod (wrap64 (a1)) 6))) 0) else (some t630))) = some r := H
  have A3 := am A30
  clear A30
  replace H := Option.bind_eq_some_iff.mp H
  obtain ⟨t631, A40, H⟩ := H
  replace H : (if t631 = true then (sennitlaw10_ZealChoose.l0 k l0 t630 (wrap64 (1 + (Int.tmod (wrap64 (a1)) 6))) 0) else (some t630)) = some r := H
  have A4 := am A40
  clear A40
  by_cases c5 : t631 = true
  · subst c5
    have H1 : (sennitlaw10_ZealChoose.l0 k l0 t630 (wrap64 (1 + (Int.tmod (wrap64 (a1)) 6))) 0) = some r := by rw [if_pos rfl] at H; exact H
    clear H
    have H := H1
    clear H1
    have H' := am H
    clear H
    go_enter Try.func14, Try.ntmps14
    go_wp2_with (first | ((with_reducible refine gate_callee (f := 35) rfl ?_); refine goesL_ (some 8) rfl rfl Try.func35 (by kernel_rfl) rfl #[] rfl (by (try simp only [List.map_toArray, List.map_cons, List.map_nil]); first | done | rfl | (simp only [List.length_drop, List.length_take]; rfl)) ?_; (with_reducible refine (sennitlaw10_awake.calls k  t630 _ A3.out).mono ?_); rintro e w6 ⟨rfl, hb⟩; refine ⟨_, rfl, ?_⟩; have n0_ := am (below_step (by repeat (with_reducible first | exact HB.out | apply bA | apply bN | apply bD)) hb); clear HB; have HB := n0_; clear n0_; (try clear hb); (try clear hb2); (try clear hk); (try clear hi)) | ((with_reducible refine gate_callee (f := 32) rfl ?_); refine goesL_ (some 10) rfl rfl Try.func32 (by kernel_rfl) rfl #[.slice A0 l0.length c0] rfl (by (try simp only [List.map_toArray, List.map_cons, List.map_nil]); first | done | rfl | (simp only [List.length_drop, List.length_take]; rfl)) ?_; (with_reducible refine (sennitref07_Few.calls k _ _ l0 true _ ?side1 ?side2 A4.out).mono ?_); (case side1 => repeat (first | exact (Kd.C_below HR0.out HB.out) | (with_reducible refine Kd.C_alloc ?_ _) | (with_reducible refine Kd.C_drewN ?_ _) | (with_reducible refine Kd.C_drew ?_))); (case side2 => exact HC0.out); rintro e w' ⟨rfl, ⟨nd, rfl⟩⟩; refine ⟨_, rfl, ?_⟩))
    go_loopg [7] k (fun kq v7 w' => ∃ (x7_1 : Int), v7 = .int .i64 x7_1 ∧ Aside0 (sennitlaw10_ZealChoose.l0 kq l0 t630 (wrap64 (1 + (Int.tmod (wrap64 (a1)) 6))) x7_1 = some r) ∧ Aside0 (kq ≤ k) ∧ Aside0 (Below w.heap.size w w'))
    case atStart => exact ⟨(0), (by first | rfl | (simp; done) | (simp [*]; done)), H', ⟨Nat.le_refl _⟩, ⟨by repeat (with_reducible first | exact HB.out | apply bA | apply bN | apply bD)⟩⟩
    case round =>
      clear H'
      try clear c1
      try clear p2
      try clear c3
      try clear c5
      try clear p6
      obtain ⟨x7_1, rfl, HA, HK1, HB⟩ := hrel
      cases gk with
      | zero => exact absurd HA.out (by simp [sennitlaw10_ZealChoose.l0])
      | succ k1 =>
        have H := HA.out
        clear HA
        simp only [sennitlaw10_ZealChoose.l0] at H
        by_cases c7 : x7_1 < (l0.length : Int)
        · rw [if_pos c7] at H
          have c7b0 : decide (x7_1 < (l0.length : Int)) = true := decide_eq_true c7
          clear c7
          by_cases c8 : 0 ≤ x7_1
          · rw [if_pos c8] at H
            have c8b0 : decide (0 ≤ x7_1) = true := decide_eq_true c8
            clear c8
            obtain ⟨bq9, hbq9⟩ : ∃ b_ : Bool, b_ = ((rd_T27 l0 x7_1).f0) := ⟨_, rfl⟩
            replace H : (if bq9 = true then (if (((rd_T27 l0 x7_1).f3).length : Int) < (wrap64 (1 + (Int.tmod (wrap64 (a1)) 6))) then (some t630) else (sennitlaw10_ZealChoose.l0 k1 l0 t630 (wrap64 (1 + (Int.tmod (wrap64 (a1)) 6))) (wrap64 (x7_1 + 1)))) else (sennitlaw10_ZealChoose.l0 k1 l0 t630 (wrap64 (1 + (Int.tmod (wrap64 (a1)) 6))) (wrap64 (x7_1 + 1)))) = some r := by rw [← hbq9] at H; exact H
            have Nbq9 := am hbq9
            clear hbq9
            by_cases c10 : bq9 = true
            · subst c10
              have H1 : (if (((rd_T27 l0 x7_1).f3).length : Int) < (wrap64 (1 + (Int.tmod (wrap64 (a1)) 6))) then (some t630) else (sennitlaw10_ZealChoose.l0 k1 l0 t630 (wrap64 (1 + (Int.tmod (wrap64 (a1)) 6))) (wrap64 (x7_1 + 1)))) = some r := by rw [if_pos rfl] at H; exact H
              clear H
              have H := H1
              clear H1
              by_cases c11 : (((rd_T27 l0 x7_1).f3).length : Int) < (wrap64 (1 + (Int.tmod (wrap64 (a1)) 6)))
              · rw [if_pos c11] at H
                have c11b0 : decide ((((rd_T27 l0 x7_1).f3).length : Int) < (wrap64 (1 + (Int.tmod (wrap64 (a1)) 6)))) = true := decide_eq_true c11
                clear c11
                obtain rfl := Option.some.inj H
                have p632 : 0 ≤ (x7_1 : Int) := of_decide_eq_true (by first | (with_reducible assumption) | assumption)
                have q632 : x7_1 < (l0.length : Int) := of_decide_eq_true (by first | (with_reducible assumption) | assumption)
                obtain ⟨ad632, A632_1, c632_1, A632_2, c632_2, A632_3, c632_3, e632, hx632_0, hx632_1, hx632_2, hx632_3, hl632_1, hi632_1, hl632_2, hi632_2, hl632_3, hi632_3⟩ := at_T27 HR0.out x7_1 p632 q632
                (try rw [← Nbq9.out] at hx632_0)
                cases e632
                replace hx632_0 := (HB.out.cell (World.block_lt_of_cell? w _ hx632_0)).trans hx632_0
                replace hx632_1 := (HB.out.cell (World.block_lt_of_cell? w _ hx632_1)).trans hx632_1
                replace hx632_2 := (HB.out.cell (World.block_lt_of_cell? w _ hx632_2)).trans hx632_2
                replace hx632_3 := (HB.out.cell (World.block_lt_of_cell? w _ hx632_3)).trans hx632_3
                have HR632_1 := am hi632_1
                have HC632_1 := am hl632_1
                clear hi632_1 hl632_1
                have HR632_2 := am hi632_2
                have HC632_2 := am hl632_2
                clear hi632_2 hl632_2
                have HR632_3 := am hi632_3
                have HC632_3 := am hl632_3
                clear hi632_3 hl632_3
                replace p632 := eq_true p632
                replace q632 := eq_true q632
                have p633 : 0 ≤ (x7_1 : Int) := of_decide_eq_true (by first | (with_reducible assumption) | assumption)
                have q633 : x7_1 < (l0.length : Int) := of_decide_eq_true (by first | (with_reducible assumption) | assumption)
                obtain ⟨ad633, A633_1, c633_1, A633_2, c633_2, A633_3, c633_3, e633, hx633_0, hx633_1, hx633_2, hx633_3, hl633_1, hi633_1, hl633_2, hi633_2, hl633_3, hi633_3⟩ := at_T27 HR0.out x7_1 p633 q633
                (try rw [← Nbq9.out] at hx633_0)
                obtain rfl : ad632 = ad633 := (by injection e633)
                replace hx633_0 := (HB.out.cell (World.block_lt_of_cell? w _ hx633_0)).trans hx633_0
                replace hx633_1 := (HB.out.cell (World.block_lt_of_cell? w _ hx633_1)).trans hx633_1
                replace hx633_2 := (HB.out.cell (World.block_lt_of_cell? w _ hx633_2)).trans hx633_2
                replace hx633_3 := (HB.out.cell (World.block_lt_of_cell? w _ hx633_3)).trans hx633_3
                have HR633_1 := am hi633_1
                have HC633_1 := am hl633_1
                clear hi633_1 hl633_1
                have HR633_2 := am hi633_2
                have HC633_2 := am hl633_2
                clear hi633_2 hl633_2
                have HR633_3 := am hi633_3
                have HC633_3 := am hl633_3
                clear hi633_3 hl633_3
                replace p633 := eq_true p633
                replace q633 := eq_true q633
                have ea_ := Option.some.inj (hx632_1.symm.trans hx633_1)
                injection ea_ with ea_ en_ ec_
                subst ea_
                subst ec_
                clear en_
                have ea_ := Option.some.inj (hx632_2.symm.trans hx633_2)
                injection ea_ with ea_ en_ ec_
                subst ea_
                subst ec_
                clear en_
                have ea_ := Option.some.inj (hx632_3.symm.trans hx633_3)
                injection ea_ with ea_ en_ ec_
                subst ea_
                subst ec_
                clear en_
                go_wp2
                go_ret
                exact ⟨by first | rfl | (simp [errW_none, errW_some] <;> rfl) | (simp [*, errW_none, errW_some] <;> rfl), by repeat (with_reducible first | exact HB.out | apply bA | apply bN | apply bD)⟩
              · rw [if_neg c11] at H
                have c11b0 : decide ((((rd_T27 l0 x7_1).f3).length : Int) < (wrap64 (1 + (Int.tmod (wrap64 (a1)) 6)))) = false := decide_eq_false c11
                clear c11
                have H' := am H
                clear H
                have p632 : 0 ≤ (x7_1 : Int) := of_decide_eq_true (by first | (with_reducible assumption) | assumption)
                have q632 : x7_1 < (l0.length : Int) := of_decide_eq_true (by first | (with_reducible assumption) | assumption)
                obtain ⟨ad632, A632_1, c632_1, A632_2, c632_2, A632_3, c632_3, e632, hx632_0, hx632_1, hx632_2, hx632_3, hl632_1, hi632_1, hl632_2, hi632_2, hl632_3, hi632_3⟩ := at_T27 HR0.out x7_1 p632 q632
                (try rw [← Nbq9.out] at hx632_0)
                cases e632
                replace hx632_0 := (HB.out.cell (World.block_lt_of_cell? w _ hx632_0)).trans hx632_0
                replace hx632_1 := (HB.out.cell (World.block_lt_of_cell? w _ hx632_1)).trans hx632_1
                replace hx632_2 := (HB.out.cell (World.block_lt_of_cell? w _ hx632_2)).trans hx632_2
                replace hx632_3 := (HB.out.cell (World.block_lt_of_cell? w _ hx632_3)).trans hx632_3
                have HR632_1 := am hi632_1
                have HC632_1 := am hl632_1
                clear hi632_1 hl632_1
                have HR632_2 := am hi632_2
                have HC632_2 := am hl632_2
                clear hi632_2 hl632_2
                have HR632_3 := am hi632_3
                have HC632_3 := am hl632_3
                clear hi632_3 hl632_3
                replace p632 := eq_true p632
                replace q632 := eq_true q632
                have p633 : 0 ≤ (x7_1 : Int) := of_decide_eq_true (by first | (with_reducible assumption) | assumption)
                have q633 : x7_1 < (l0.length : Int) := of_decide_eq_true (by first | (with_reducible assumption) | assumption)
                obtain ⟨ad633, A633_1, c633_1, A633_2, c633_2, A633_3, c633_3, e633, hx633_0, hx633_1, hx633_2, hx633_3, hl633_1, hi633_1, hl633_2, hi633_2, hl633_3, hi633_3⟩ := at_T27 HR0.out x7_1 p633 q633
                (try rw [← Nbq9.out] at hx633_0)
                obtain rfl : ad632 = ad633 := (by injection e633)
                replace hx633_0 := (HB.out.cell (World.block_lt_of_cell? w _ hx633_0)).trans hx633_0
                replace hx633_1 := (HB.out.cell (World.block_lt_of_cell? w _ hx633_1)).trans hx633_1
                replace hx633_2 := (HB.out.cell (World.block_lt_of_cell? w _ hx633_2)).trans hx633_2
                replace hx633_3 := (HB.out.cell (World.block_lt_of_cell? w _ hx633_3)).trans hx633_3
                have HR633_1 := am hi633_1
                have HC633_1 := am hl633_1
                clear hi633_1 hl633_1
                have HR633_2 := am hi633_2
                have HC633_2 := am hl633_2
                clear hi633_2 hl633_2
                have HR633_3 := am hi633_3
                have HC633_3 := am hl633_3
                clear hi633_3 hl633_3
                replace p633 := eq_true p633
                replace q633 := eq_true q633
                have ea_ := Option.some.inj (hx632_1.symm.trans hx633_1)
                injection ea_ with ea_ en_ ec_
                subst ea_
                subst ec_
                clear en_
                have ea_ := Option.some.inj (hx632_2.symm.trans hx633_2)
                injection ea_ with ea_ en_ ec_
                subst ea_
                subst ec_
                clear en_
                have ea_ := Option.some.inj (hx632_3.symm.trans hx633_3)
                injection ea_ with ea_ en_ ec_
                subst ea_
                subst ec_
                clear en_
                go_wp2
                go_roundg k1
                case measure => have := HK1.out; omega
                case rel => exact ⟨(wrap64 (x7_1 + 1)), (by first | rfl | (simp; done) | (simp [*]; done)), H', ⟨by have := HK1.out; omega⟩, ⟨by repeat (with_reducible first | exact HB.out | apply bA | apply bN | apply bD)⟩⟩
            · replace c10 := Bool.eq_false_iff.mpr c10
              subst c10
              have H1 : (sennitlaw10_ZealChoose.l0 k1 l0 t630 (wrap64 (1 + (Int.tmod (wrap64 (a1)) 6))) (wrap64 (x7_1 + 1))) = some r := by rw [if_neg (show ¬ (false = true) by decide)] at H; exact H
              clear H
              have H := H1
              clear H1
              have H' := am H
              clear H
              have p632 : 0 ≤ (x7_1 : Int) := of_decide_eq_true (by first | (with_reducible assumption) | assumption)
              have q632 : x7_1 < (l0.length : Int) := of_decide_eq_true (by first | (with_reducible assumption) | assumption)
              obtain ⟨ad632, A632_1, c632_1, A632_2, c632_2, A632_3, c632_3, e632, hx632_0, hx632_1, hx632_2, hx632_3, hl632_1, hi632_1, hl632_2, hi632_2, hl632_3, hi632_3⟩ := at_T27 HR0.out x7_1 p632 q632
              (try rw [← Nbq9.out] at hx632_0)
              cases e632
              replace hx632_0 := (HB.out.cell (World.block_lt_of_cell? w _ hx632_0)).trans hx632_0
              replace hx632_1 := (HB.out.cell (World.block_lt_of_cell? w _ hx632_1)).trans hx632_1
              replace hx632_2 := (HB.out.cell (World.block_lt_of_cell? w _ hx632_2)).trans hx632_2
              replace hx632_3 := (HB.out.cell (World.block_lt_of_cell? w _ hx632_3)).trans hx632_3
              have HR632_1 := am hi632_1
              have HC632_1 := am hl632_1
              clear hi632_1 hl632_1
              have HR632_2 := am hi632_2
              have HC632_2 := am hl632_2
              clear hi632_2 hl632_2
              have HR632_3 := am hi632_3
              have HC632_3 := am hl632_3
              clear hi632_3 hl632_3
              replace p632 := eq_true p632
              replace q632 := eq_true q632
              go_wp2
              go_roundg k1
              case measure => have := HK1.out; omega
              case rel => exact ⟨(wrap64 (x7_1 + 1)), (by first | rfl | (simp; done) | (simp [*]; done)), H', ⟨by have := HK1.out; omega⟩, ⟨by repeat (with_reducible first | exact HB.out | apply bA | apply bN | apply bD)⟩⟩
          · rw [if_neg c8] at H
            exact absurd H (by simp)
        · rw [if_neg c7] at H
          have c7b0 : decide (x7_1 < (l0.length : Int)) = false := decide_eq_false c7
          clear c7
          by_cases c12 : t630 = true
          · subst c12
            have H1 : ((zeal_Zeal.f k1 l0).bind fun t634 => ((pick_Choose.f k1 t634 (wrap64 (1 + (Int.tmod (wrap64 (a1)) 6)))).bind fun t637 => ((sennitref07_Choose.f k1 l0 (wrap64 (1 + (Int.tmod (wrap64 (a1)) 6)))).bind fun t640 => ((sennitref01_Same.f k1 t637 t640).bind fun t643 => (some t643))))) = some r := by rw [if_pos rfl] at H; exact H
            clear H
            have H := H1
            clear H1
            replace H := Option.bind_eq_some_iff.mp H
            obtain ⟨t634, A130, H⟩ := H
            replace H : ((pick_Choose.f k1 t634 (wrap64 (1 + (Int.tmod (wrap64 (a1)) 6)))).bind fun t637 => ((sennitref07_Choose.f k1 l0 (wrap64 (1 + (Int.tmod (wrap64 (a1)) 6)))).bind fun t640 => ((sennitref01_Same.f k1 t637 t640).bind fun t643 => (some t643)))) = some r := H
            have A13 := am A130
            clear A130
            replace H := Option.bind_eq_some_iff.mp H
            obtain ⟨t637, A140, H⟩ := H
            replace H : ((sennitref07_Choose.f k1 l0 (wrap64 (1 + (Int.tmod (wrap64 (a1)) 6)))).bind fun t640 => ((sennitref01_Same.f k1 t637 t640).bind fun t643 => (some t643))) = some r := H
            have A14 := am A140
            clear A140
            replace H := Option.bind_eq_some_iff.mp H
            obtain ⟨t640, A150, H⟩ := H
            replace H : ((sennitref01_Same.f k1 t637 t640).bind fun t643 => (some t643)) = some r := H
            have A15 := am A150
            clear A150
            replace H := Option.bind_eq_some_iff.mp H
            obtain ⟨t643, A160, H⟩ := H
            replace H : (some t643) = some r := H
            have A16 := am A160
            clear A160
            obtain rfl := Option.some.inj H
            go_wp2_with (first | (go_at_call 38; (with_reducible refine (zeal_Zeal.calls k1 (fun k_ => k_ < w.heap.size) _ _ l0 t634 _ ?side1 A13.out).mono ?_); (case side1 => exact Kd.V_mk HC0.out (Kd.F_below (Kd.C_F k27_heap HR0.out) (by repeat (with_reducible first | exact HB.out | apply bA | apply bN | apply bD)))); rintro e w17 ⟨v635, rfl, ho0, hb⟩; have n0_ := am (Kd.N_lower (Kd.N_mono (ok' := fun k_ => True) ho0 (fun k_ hk_ => trivial)) (below_size (by repeat (with_reducible first | exact HB.out | apply bA | apply bN | apply bD)))); have n1_ := am (below_step (by repeat (with_reducible first | exact HB.out | apply bA | apply bN | apply bD)) hb); clear HB; have HO636 := n0_; have HB := n1_; clear n0_ n1_; (try clear hb); (try clear hb2); (try clear hk); (try clear hi); (try clear ho0); obtain ⟨Ao18, co18, eo18⟩ := Kd.N_slice HO636.out; subst eo18) | (go_at_call 44; (with_reducible refine (pick_Choose.calls k1 _ _ t634 (wrap64 (1 + (Int.tmod (wrap64 (a1)) 6))) t637 _ ?side1 ?side2 A14.out).mono ?_); (case side1 => repeat (first | exact (Kd.N_reads' HO636.out).2.2 | (with_reducible refine Kd.C_alloc ?_ _) | (with_reducible refine Kd.C_drewN ?_ _) | (with_reducible refine Kd.C_drew ?_))); (case side2 => exact (Kd.N_reads' HO636.out).2.1); rintro e w19 ⟨v638, rfl, ho0, hb⟩; have n0_ := am (Kd.N_elder' (by (with_reducible repeat (first | apply nA | apply nN | apply nD)); exact HO636.out) (Kd.R_base ho0) hb); have n1_ := am (Kd.R_lower ho0 (below_size (by repeat (with_reducible first | exact HB.out | apply bA | apply bN | apply bD)))); have n2_ := am (below_step (by repeat (with_reducible first | exact HB.out | apply bA | apply bN | apply bD)) hb); clear HO636; clear HB; have HO636 := n0_; have HO639 := n1_; have HB := n2_; clear n0_ n1_ n2_; (try clear hb); (try clear hb2); (try clear hk); (try clear hi); (try clear ho0)) | (go_at_call 45; (with_reducible refine (sennitref07_Choose.calls k1 _ _ l0 (wrap64 (1 + (Int.tmod (wrap64 (a1)) 6))) t640 _ ?side1 ?side2 A15.out).mono ?_); (case side1 => repeat (first | exact (Kd.C_below HR0.out HB.out) | (with_reducible refine Kd.C_alloc ?_ _) | (with_reducible refine Kd.C_drewN ?_ _) | (with_reducible refine Kd.C_drew ?_))); (case side2 => exact HC0.out); rintro e w20 ⟨v641, rfl, ho0, hb⟩; have n0_ := am (Kd.N_elder' (by (with_reducible repeat (first | apply nA | apply nN | apply nD)); exact HO636.out) (Kd.R_base ho0) hb); have n1_ := am (Kd.R_elder' (by (with_reducible repeat (first | apply rA | apply rN | apply rD)); exact HO639.out) (Kd.R_base ho0) hb); have n2_ := am (Kd.R_lower (Kd.R_new' ho0 (Kd.R_lt (by (with_reducible repeat (first | apply rA | apply rN | apply rD)); exact HO639.out))) (below_size (by repeat (with_reducible first | exact HB.out | apply bA | apply bN | apply bD)))); have n3_ := am (below_step (by repeat (with_reducible first | exact HB.out | apply bA | apply bN | apply bD)) hb); clear HO636; clear HO639; clear HB; have HO636 := n0_; have HO639 := n1_; have HO642 := n2_; have HB := n3_; clear n0_ n1_ n2_ n3_; (try clear hb); (try clear hb2); (try clear hk); (try clear hi); (try clear ho0); obtain ⟨Ao21, co21, eo21⟩ := Kd.R_slice HO639.out; subst eo21; obtain ⟨Ao22, co22, eo22⟩ := Kd.R_slice HO642.out; subst eo22) | (go_at_call 24; (with_reducible refine (sennitref01_Same.calls k1 _ _ t637 _ _ t640 t643 _ ?side1 ?side2 ?side3 ?side4 A16.out).mono ?_); (case side1 => repeat (first | exact (Kd.R_reads' HO639.out).2.2 | (with_reducible refine Kd.C_alloc ?_ _) | (with_reducible refine Kd.C_drewN ?_ _) | (with_reducible refine Kd.C_drew ?_))); (case side2 => exact (Kd.R_reads' HO639.out).2.1); (case side3 => repeat (first | exact (Kd.R_reads' HO642.out).2.2 | (with_reducible refine Kd.C_alloc ?_ _) | (with_reducible refine Kd.C_drewN ?_ _) | (with_reducible refine Kd.C_drew ?_))); (case side4 => exact (Kd.R_reads' HO642.out).2.1); rintro e w' ⟨rfl, ⟨nd, rfl⟩⟩))
            go_ret
            exact ⟨by first | rfl | (simp [errW_none, errW_some] <;> rfl) | (simp [*, errW_none, errW_some] <;> rfl), by repeat (with_reducible first | exact HB.out | apply bA | apply bN | apply bD)⟩
          · replace c12 := Bool.eq_false_iff.mpr c12
            subst c12
            have H1 : (some false) = some r := by rw [if_neg (show ¬ (false = true) by decide)] at H; exact H
            clear H
            have H := H1
            clear H1
            obtain rfl := Option.some.inj H
            go_wp2
            go_ret
            exact ⟨by first | rfl | (simp [errW_none, errW_some] <;> rfl) | (simp [*, errW_none, errW_some] <;> rfl), by repeat (with_reducible first | exact HB.out | apply bA | apply bN | apply bD)⟩
  · replace c5 := Bool.eq_false_iff.mpr c5
    subst c5
    have H1 : (some t630) = some r := by rw [if_neg (show ¬ (false = true) by decide)] at H; exact H
    clear H
    have H := H1
    clear H1
    obtain rfl := Option.some.inj H
    go_enter Try.func14, Try.ntmps14
    go_wp2_with (first | ((with_reducible refine gate_callee (f := 35) rfl ?_); refine goesL_ (some 8) rfl rfl Try.func35 (by kernel_rfl) rfl #[] rfl (by (try simp only [List.map_toArray, List.map_cons, List.map_nil]); first | done | rfl | (simp only [List.length_drop, List.length_take]; rfl)) ?_; (with_reducible refine (sennitlaw10_awake.calls k  t630 _ A3.out).mono ?_); rintro e w23 ⟨rfl, hb⟩; refine ⟨_, rfl, ?_⟩; have n0_ := am (below_step (by repeat (with_reducible first | exact HB.out | apply bA | apply bN | apply bD)) hb); clear HB; have HB := n0_; clear n0_; (try clear hb); (try clear hb2); (try clear hk); (try clear hi)) | ((with_reducible refine gate_callee (f := 32) rfl ?_); refine goesL_ (some 10) rfl rfl Try.func32 (by kernel_rfl) rfl #[.slice A0 l0.length c0] rfl (by (try simp only [List.map_toArray, List.map_cons, List.map_nil]); first | done | rfl | (simp only [List.length_drop, List.length_take]; rfl)) ?_; (with_reducible refine (sennitref07_Few.calls k _ _ l0 false _ ?side1 ?side2 A4.out).mono ?_); (case side1 => repeat (first | exact (Kd.C_below HR0.out HB.out) | (with_reducible refine Kd.C_alloc ?_ _) | (with_reducible refine Kd.C_drewN ?_ _) | (with_reducible refine Kd.C_drew ?_))); (case side2 => exact HC0.out); rintro e w' ⟨rfl, ⟨nd, rfl⟩⟩; refine ⟨_, rfl, ?_⟩))
    go_ret
    exact ⟨by first | rfl | (simp [errW_none, errW_some] <;> rfl) | (simp [*, errW_none, errW_some] <;> rfl), by repeat (with_reducible first | exact HB.out | apply bA | apply bN | apply bD)⟩

end Go.Proofs.Ytiaoppikdgoieaa.M
namespace Go.Proofs.Ytiaoppikdgoieaa.M
open Go.RowKit Go.Proofs Go.Proofs.YtiaoppikdgoieaaW.PrintWords Go.Proofs.YtiaoppikdgoieaaW.PrintLast Go.Proofs.YtiaoppikdgoieaaW.PrintMore Go.Proofs.Ytiaoppikdgoieaa.Hand
set_option linter.unusedVariables false
set_option linter.unusedSimpArgs false

theorem equal52_c (a b : List ByteArray) (A0 : Option Addr) (c0 : Nat) (A1 : Option Addr) (c1 : Nat) (w : World) (hr0 : Kd.C Kd.string w A0 a.length a) (hc0 : a.length ≤ c0) (hr1 : Kd.C Kd.string w A1 b.length b) (hc1 : b.length ≤ c1) :
    Calls Try.prog 52 #[.slice A0 a.length c0, .slice A1 b.length c1] w fun e w' => e = .returned (.bool (decide (a = b))) ∧ Drawn0 w w' :=
  slices_Equal_string_string.calls _ _ _ a _ _ b _ _ hr0 hc0 hr1 hc1 (equal_f a b hr0.2.1)

set_option maxHeartbeats 1000000 in
theorem equal55_c (w : World) (A0 : Option Addr) (c0 : Nat) (l0 : List (List ByteArray)) (A1 : Option Addr) (c1 : Nat) (l1 : List (List ByteArray))
    (hr0 : Kd.C (Kd.slice 9 Kd.string) w A0 l0.length l0) (hc0 : l0.length ≤ c0) (hr1 : Kd.C (Kd.slice 9 Kd.string) w A1 l1.length l1) (hc1 : l1.length ≤ c1) :
    Calls Try.prog 55 #[.slice A0 l0.length c0, .slice A1 l1.length c1, .func (.func 52) #[] #[]] w fun e w' => e = .returned (.bool (decide (l0 = l1))) ∧ Drawn0 w w' := by
  have HR0 := Aside0.mk hr0
  have HC0 := Aside0.mk hc0
  have HR1 := Aside0.mk hr1
  have HC1 := Aside0.mk hc1
  have HL0 := Aside0.mk hr0.2.1
  have HL1 := Aside0.mk hr1.2.1
  clear hr0 hc0 hr1 hc1
  by_cases hlen : l0.length = l1.length
  · have HN := Aside0.mk hlen
    have e1 : ((l0.length : Int) != (l1.length : Int)) = false := by rw [hlen]; simp
    have e2 : (l0.length != l1.length) = false := by rw [hlen]; simp
    clear hlen
    go_enter Try.func55, Try.ntmps55
    go_wp2
    repeat (go_quiet (fail); try go_wp2)
    go_loopg [17] l0.length (fun kq v17 w' => ∃ i : Nat, v17 = .int .i64 (i : Int) ∧ Aside0 (i ≤ l0.length ∧ kq = l0.length - i) ∧ Aside0 (l0.take i = l1.take i) ∧ Drawn0 w w')
    case atStart => exact ⟨0, rfl, ⟨Nat.zero_le _, rfl⟩, ⟨by simp⟩, Drawn0.refl _⟩
    case round =>
      obtain ⟨i, rfl, HI, HA, ⟨m1, rfl⟩⟩ := hrel
      have hli := HL0.out
      by_cases c4 : i < l0.length
      · have c4b0 : decide ((i : Int) < (l0.length : Int)) = true := decide_eq_true (by omega)
        have c4b1 : decide (i < l0.length) = true := decide_eq_true c4
        have c5 : i < l1.length := by have := HN.out; omega
        have c5b1 : decide (i < l1.length) = true := decide_eq_true c5
        obtain ⟨z, g0⟩ : ∃ z, l0[i]? = some z := ⟨_, List.getElem?_eq_getElem c4⟩
        obtain ⟨y, g1⟩ : ∃ y, l1[i]? = some y := ⟨_, List.getElem?_eq_getElem c5⟩
        obtain ⟨ad, A2, c2, rfl, hx, hl, hi⟩ := C_row HR0.out i z g0
        obtain ⟨ae, A3, c3, rfl, hy, hm, hj⟩ := C_row HR1.out i y g1
        have HS0 := Aside0.mk (take_snoc l0 i z g0)
        have HS1 := Aside0.mk (take_snoc l1 i y g1)
        have G0 := Aside0.mk g0
        have G1 := Aside0.mk g1
        have HR2 := Aside0.mk hi
        have HC2 := Aside0.mk hl
        have HR3 := Aside0.mk hj
        have HC3 := Aside0.mk hm
        clear hi hl hj hm g0 g1
        have bi : (i : Int) < 9223372036854775807 := by omega
        by_cases hp : z = y
        · have HD : Aside0 (decide (z = y) = true) := ⟨decide_eq_true hp⟩
          have HP := Aside0.mk hp
          clear hp
          go_wp2_with (go_at_call 52; (with_reducible refine (equal52_c z y _ _ _ _ _ ?sa ?sb ?sc ?sd).mono ?_); (case sa => with_reducible exact Kd.C_drewN HR2.out _); (case sb => exact HC2.out); (case sc => with_reducible exact Kd.C_drewN HR3.out _); (case sd => exact HC3.out); rintro e w' ⟨he, ⟨nd, rfl⟩⟩; rw [HD.out] at he; subst he)
          go_roundg (l0.length - (i + 1))
          case measure => have := HI.out; omega
          case rel => exact ⟨i + 1, by go_num, ⟨by omega, rfl⟩, ⟨by rw [HS0.out, HS1.out, HA.out, HP.out]⟩, ⟨⟨_, rfl⟩⟩⟩
        · have HD : Aside0 (decide (z = y) = false) := ⟨decide_eq_false hp⟩
          have HP := Aside0.mk hp
          clear hp
          go_wp2_with (go_at_call 52; (with_reducible refine (equal52_c z y _ _ _ _ _ ?sa ?sb ?sc ?sd).mono ?_); (case sa => with_reducible exact Kd.C_drewN HR2.out _); (case sb => exact HC2.out); (case sc => with_reducible exact Kd.C_drewN HR3.out _); (case sd => exact HC3.out); rintro e w' ⟨he, ⟨nd, rfl⟩⟩; rw [HD.out] at he; subst he)
          go_ret
          exact ⟨by rw [decide_eq_false (fun e => HP.out (by have h0 := G0.out; have h1 := G1.out; rw [e, h1] at h0; exact (Option.some.inj h0).symm))]; rfl, ⟨⟨_, rfl⟩⟩⟩
      · have c4b0 : decide ((i : Int) < (l0.length : Int)) = false := decide_eq_false (by omega)
        have c4b1 : decide (i < l0.length) = false := decide_eq_false c4
        have HQ : Aside0 (l0 = l1) := ⟨by
          have := HA.out
          rwa [List.take_of_length_le (by omega), List.take_of_length_le (by have := HN.out; omega)] at this⟩
        go_wp2
        repeat (go_quiet (fail); try go_wp2)
        go_ret
        exact ⟨by rw [decide_eq_true HQ.out]; rfl, ⟨⟨_, rfl⟩⟩⟩
  · have HN := Aside0.mk hlen
    have e1 : ((l0.length : Int) != (l1.length : Int)) = true := bne_iff_ne.mpr (by omega)
    have e2 : (l0.length != l1.length) = true := bne_iff_ne.mpr hlen
    clear hlen
    go_enter Try.func55, Try.ntmps55
    go_wp2
    repeat (go_quiet (fail); try go_wp2)
    go_ret
    exact ⟨by rw [decide_eq_false (fun e => HN.out (by rw [e]))]; rfl, Drawn0.refl _⟩

def sameP (x y : S27) : Bool := decide (x.f0 = y.f0) && (decide (x.f1 = y.f1) && (decide (x.f2 = y.f2) && decide (x.f3 = y.f3)))
theorem sameP_iff (x y : S27) : sameP x y = true ↔ x = y := by
  cases x; cases y
  simp [sameP]

set_option maxHeartbeats 4000000 in
set_option maxRecDepth 100000 in
theorem same54_c (W : World) (p : Addr) (b0 b1 : Bool) (T0 T1 B0 B1 : List ByteArray) (S0 S1 : List (List ByteArray)) (a1 a2 a3 e1 e2 e3 : Option Addr) (c1 c2 c3 d1 d2 d3 : Nat)
    (hp : W.cell? p = some (.func (.func 52) #[] #[])) (hpl : p.block < W.heap.size)
    (ha1 : Kd.C Kd.string W a1 T0.length T0) (la1 : T0.length ≤ c1) (ha2 : Kd.C Kd.string W a2 B0.length B0) (la2 : B0.length ≤ c2) (ha3 : Kd.C (Kd.slice 9 Kd.string) W a3 S0.length S0) (la3 : S0.length ≤ c3)
    (he1 : Kd.C Kd.string W e1 T1.length T1) (le1 : T1.length ≤ d1) (he2 : Kd.C Kd.string W e2 B1.length B1) (le2 : B1.length ≤ d2) (he3 : Kd.C (Kd.slice 9 Kd.string) W e3 S1.length S1) (le3 : S1.length ≤ d3) :
    Calls Try.prog 54 #[.agg #[.bool b0, .slice a1 T0.length c1, .slice a2 B0.length c2, .slice a3 S0.length c3], .agg #[.bool b1, .slice e1 T1.length d1, .slice e2 B1.length d2, .slice e3 S1.length d3], .pointer (some p)] W
      fun e w' => e = .returned (.bool (sameP ⟨b0, T0, B0, S0⟩ ⟨b1, T1, B1, S1⟩)) ∧ Below W.heap.size W w' := by
  obtain ⟨W2, hW2⟩ : ∃ W2, (W.alloc (.cells #[.bool b0, .slice a1 T0.length c1, .slice a2 B0.length c2, .slice a3 S0.length c3] 27)).alloc (.cells #[.bool b1, .slice e1 T1.length d1, .slice e2 B1.length d2, .slice e3 S1.length d3] 27) = W2 := ⟨_, rfl⟩
  have hBW : Below W.heap.size W W2 := by rw [← hW2]; exact below_alloc (below_alloc (Below.refl _ _) _) _
  have HB := Aside0.mk hBW
  have HA1 := Aside0.mk (Kd.C_below ha1 hBW)
  have HA2 := Aside0.mk (Kd.C_below ha2 hBW)
  have HA3 := Aside0.mk (Kd.C_below ha3 hBW)
  have HE1 := Aside0.mk (Kd.C_below he1 hBW)
  have HE2 := Aside0.mk (Kd.C_below he2 hBW)
  have HE3 := Aside0.mk (Kd.C_below he3 hBW)
  have L := Aside0.mk (And.intro la1 (And.intro la2 (And.intro la3 (And.intro le1 (And.intro le2 le3)))))
  have hp2 : W2.cell? p = some (.func (.func 52) #[] #[]) := (hBW.cell hpl).trans hp
  have hq0 : W2.heap[W.heap.size]? = some (.cells #[.bool b0, .slice a1 T0.length c1, .slice a2 B0.length c2, .slice a3 S0.length c3] 27 (0, 0)) := by
    rw [← hW2]; exact blk_later (Go.heap_alloc_new W _) (below_alloc (Below.refl _ _) _)
  have hq1 : W2.heap[W.heap.size + 1]? = some (.cells #[.bool b1, .slice e1 T1.length d1, .slice e2 B1.length d2, .slice e3 S1.length d3] 27 (0, 0)) := by
    rw [← hW2]
    have := Go.heap_alloc_new (W.alloc (.cells #[.bool b0, .slice a1 T0.length c1, .slice a2 B0.length c2, .slice a3 S0.length c3] 27)) (.cells #[.bool b1, .slice e1 T1.length d1, .slice e2 B1.length d2, .slice e3 S1.length d3] 27)
    rw [World.size_alloc] at this
    exact this
  have k00 := blk_cell hq0 0
  have k01 := blk_cell hq0 1
  have k02 := blk_cell hq0 2
  have k03 := blk_cell hq0 3
  have k10 := blk_cell hq1 0
  have k11 := blk_cell hq1 1
  have k12 := blk_cell hq1 2
  have k13 := blk_cell hq1 3
  simp only [List.getElem?_toArray, List.getElem?_cons_zero, List.getElem?_cons_succ] at k00 k01 k02 k03 k10 k11 k12 k13
  clear ha1 ha2 ha3 he1 he2 he3 la1 la2 la3 le1 le2 le3 hBW hq0 hq1 hp
  have key : Aside0 (sameP ⟨b0, T0, B0, S0⟩ ⟨b1, T1, B1, S1⟩ = (decide (b0 = b1) && (decide (T0 = T1) && (decide (B0 = B1) && decide (S0 = S1))))) := ⟨rfl⟩
  obtain ⟨s3, h3⟩ : ∃ s3, s3 = decide (S0 = S1) := ⟨_, rfl⟩
  obtain ⟨s1, h1⟩ : ∃ s1, s1 = decide (T0 = T1) := ⟨_, rfl⟩
  obtain ⟨s2, h2⟩ : ∃ s2, s2 = decide (B0 = B1) := ⟨_, rfl⟩
  rw [key.out, ← h1, ← h2, ← h3]
  have H1 := Aside0.mk h1
  have H2 := Aside0.mk h2
  have H3 := Aside0.mk h3
  clear h1 h2 h3 key
  cases b0 <;> cases b1 <;> cases s1 <;> cases s2
  all_goals
    go_enter Try.func54, Try.ntmps54
    go_wp2_with (first
      | (go_at_call 55; (with_reducible refine (equal55_c _ a3 c3 S0 e3 d3 S1 HA3.out L.out.2.2.1 HE3.out L.out.2.2.2.2.2).mono ?_); rintro e w' ⟨he, ⟨nd, rfl⟩⟩; rw [← H3.out] at he; subst he)
      | (go_at_call 52; (with_reducible refine (equal52_c T0 T1 a1 c1 e1 d1 _ ?sa ?sb ?sc ?sd).mono ?_); (case sa => with_reducible exact Kd.C_drewN HA1.out _); (case sb => exact L.out.1); (case sc => with_reducible exact Kd.C_drewN HE1.out _); (case sd => exact L.out.2.2.2.1); rintro e w' ⟨he, ⟨nd1, rfl⟩⟩; rw [← H1.out] at he; subst he)
      | (go_at_call 52; (with_reducible refine (equal52_c B0 B1 a2 c2 e2 d2 _ ?sa ?sb ?sc ?sd).mono ?_); (case sa => with_reducible exact Kd.C_drewN HA2.out _); (case sb => exact L.out.2.1); (case sc => with_reducible exact Kd.C_drewN HE2.out _); (case sd => exact L.out.2.2.2.2.1); rintro e w' ⟨he, ⟨nd2, rfl⟩⟩; rw [← H2.out] at he; subst he))
    go_ret
    exact ⟨by first | rfl | simp, by repeat (first | exact HB.out | apply pw_below_drewN)⟩

end Go.Proofs.Ytiaoppikdgoieaa.M
