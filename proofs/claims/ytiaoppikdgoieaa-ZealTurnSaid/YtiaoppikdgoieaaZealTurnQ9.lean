/- Texts of the claim ZealTurn, put together (part 9): By a program of this session: a Go function as a Lean function, and that the machine's call does what it says. pick.Same's closures: are two lists of lists, are two pieces the same. -/
import Derived.ArgAppend
import Derived.Below
import Derived.BigQuiet
import Derived.Deep.AppendLies
import Derived.Deep.CutBlock
import Derived.Deep.DeepCutAuto
import Derived.Deep.Draws
import Derived.Deep.LoopGhost
import Derived.Deep.OwnRows
import Derived.Deep.QuietTactic
import Derived.Deep.RegionHeld3
import Derived.KernelRfl
import Derived.Laws.BitsLemmas
import Derived.Laws.BytesArg
import Derived.Laws.IdiomCopy
import Derived.Laws.MakeOwn
import Derived.Laws.OwnMore
import Derived.Laws.Rows
import Derived.Laws.Slices
import Derived.Laws.StructEq
import Derived.Lib.AppendStr
import Derived.Lib.ConvBytes
import Derived.Maps.AppendAt
import Derived.OrdersHeld
import Derived.OwnWalk
import Derived.RangeFuncBox
import Derived.RowKit
import Derived.RowKit3
import Derived.Tactics
import Derived.Test.YtiaoppikdgoieaaProg
import Derived.WalkKit
import Derived.WideLaws
import Derived.Test.YtiaoppikdgoieaaZealTurnQ8
namespace Go.Proofs.Ytiaoppikdgoieaa.M
open Go.RowKit Go.Proofs.YtiaoppikdgoieaaW.PrintWords Go.Proofs.YtiaoppikdgoieaaW.PrintLast Go.Proofs.YtiaoppikdgoieaaW.PrintMore Go.Proofs.Ytiaoppikdgoieaa.Hand
attribute [local go_sem] max2_int min2_int max_two min_two max_three min_three max_four min_four
set_option linter.unusedVariables false
set_option linter.unusedSimpArgs false

/-! ### sennitlaw10_ZealTurn: function 13 -/
mutual
def sennitlaw10_ZealTurn.j0 : Nat → Int → Bool → Bool → Bool → List ByteArray → List ByteArray → List (List ByteArray) → Option (Bool)
 | 0, _, _, _, _, _, _, _ => none
 | k + 1, x1, x5, x27, x568000, x568001, x568002, x568003 => if x27 = true then (some x5) else (if (x568003.length : Int) = 0 then (none) else ((some (([] : List (List ByteArray)) : List (List ByteArray))).bind fun y574 => (if 0 ≤ (Int.tmod (wrap64 (x1)) (x568003.length : Int)) then (if (Int.tmod (wrap64 (x1)) (x568003.length : Int)) ≤ (x568003.length : Int) then ((some (x568003.drop ((Int.tmod (wrap64 (x1)) (x568003.length : Int)) : Int).toNat : List (List ByteArray))).bind fun y577 => (if y574.length + y577.length < 5864062014805 then ((some (y574 ++ y577 : List (List ByteArray))).bind fun y582 => ((some (x568003.take ((Int.tmod (wrap64 (x1)) (x568003.length : Int)) : Int).toNat : List (List ByteArray))).bind fun y585 => (if y582.length + y585.length < 5864062014805 then ((zeal_Trim.f k x568000 x568001 x568002 x568003).bind fun t593 => ((zeal_Trim.f k x568000 x568001 x568002 (y582 ++ y585)).bind fun t596 => (if (t593.length : Int) = (t596.length : Int) then (sennitlaw10_ZealTurn.l0 k x5 (Int.tmod (wrap64 (x1)) (x568003.length : Int)) t593 t596 0 x568000 x568001 x568002 x568003) else (none)))) else (none)))) else (none))) else (none)) else (none))))
def sennitlaw10_ZealTurn.l0 : Nat → Bool → Int → List (S27) → List (S27) → Int → Bool → List ByteArray → List ByteArray → List (List ByteArray) → Option (Bool)
 | 0, _, _, _, _, _, _, _, _, _ => none
 | k + 1, x5, x6, x8, x9, x10, x568000, x568001, x568002, x568003 => if x10 < (x8.length : Int) then (if 0 ≤ x10 then (if x10 < (x9.length : Int) then (if (((rd_T27 x8 x10).f0) != ((rd_T27 x9 x10).f0)) = true then (sennitlaw10_ZealTurn.j2 k x5 x6 x8 x9 x10 true x568000 x568001 x568002 x568003) else ((sennitref01_Same.f k ((rd_T27 x8 x10).f1) ((rd_T27 x9 x10).f1)).bind fun t608 => (if t608 = true then (sennitlaw10_ZealTurn.j2 k x5 x6 x8 x9 x10 ((((rd_T27 x8 x10).f3).length : Int) != (((rd_T27 x9 x10).f3).length : Int)) x568000 x568001 x568002 x568003) else (sennitlaw10_ZealTurn.j2 k x5 x6 x8 x9 x10 true x568000 x568001 x568002 x568003)))) else (none)) else (none)) else (if x5 = true then ((pick_Clean.f k x8).bind fun t599 => (if 0 < (x568003.length : Int) then ((sennitref06_Differing.f k (rd_L1 x568003 0) x568003).bind fun t601 => (some (t599 == ((t601.length : Int) == 0)))) else (none))) else (none))
def sennitlaw10_ZealTurn.j2 : Nat → Bool → Int → List (S27) → List (S27) → Int → Bool → Bool → List ByteArray → List ByteArray → List (List ByteArray) → Option (Bool)
 | 0, _, _, _, _, _, _, _, _, _, _ => none
 | k + 1, x5, x6, x8, x9, x10, x102, x568000, x568001, x568002, x568003 => if x102 = true then (none) else (sennitlaw10_ZealTurn.l1 k x5 x6 x8 x9 x10 0 x568000 x568001 x568002 x568003)
def sennitlaw10_ZealTurn.l1 : Nat → Bool → Int → List (S27) → List (S27) → Int → Int → Bool → List ByteArray → List ByteArray → List (List ByteArray) → Option (Bool)
 | 0, _, _, _, _, _, _, _, _, _, _ => none
 | k + 1, x5, x6, x8, x9, x10, x11, x568000, x568001, x568002, x568003 => if 0 ≤ x10 then (if x10 < (x8.length : Int) then (if x11 < (((rd_T27 x8 x10).f3).length : Int) then (if x10 < (x9.length : Int) then (if 0 ≤ x11 then (if x11 < (((rd_T27 x9 x10).f3).length : Int) then (if (((rd_T27 x8 x10).f3).length : Int) = 0 then (none) else (if 0 ≤ (Int.tmod (wrap64 (x11 + x6)) (((rd_T27 x8 x10).f3).length : Int)) then (if (Int.tmod (wrap64 (x11 + x6)) (((rd_T27 x8 x10).f3).length : Int)) < (((rd_T27 x8 x10).f3).length : Int) then ((sennitref01_Same.f k (rd_L1 ((rd_T27 x9 x10).f3) x11) (rd_L1 ((rd_T27 x8 x10).f3) (Int.tmod (wrap64 (x11 + x6)) (((rd_T27 x8 x10).f3).length : Int)))).bind fun t617 => (if t617 = true then (sennitlaw10_ZealTurn.l1 k x5 x6 x8 x9 x10 (wrap64 (x11 + 1)) x568000 x568001 x568002 x568003) else (none))) else (none)) else (none))) else (none)) else (none)) else (none)) else (sennitlaw10_ZealTurn.l0 k x5 x6 x8 x9 (wrap64 (x10 + 1)) x568000 x568001 x568002 x568003)) else (none)) else (none)
end
def sennitlaw10_ZealTurn.f (k : Nat) (a0_0 : Bool) (l0_1 : List ByteArray) (l0_2 : List ByteArray) (l0_3 : List (List ByteArray)) (a1 : Int) : Option (Bool) := (sennitlaw10_awake.f k).bind fun t568 => ((sennitref07_Few.f k (([(⟨a0_0, l0_1, l0_2, l0_3⟩ : S27)] : List (S27)))).bind fun t572 => (if t572 = true then (if a0_0 = true then (sennitlaw10_ZealTurn.j0 k a1 t568 ((l0_3.length : Int) == 0) a0_0 l0_1 l0_2 l0_3) else (sennitlaw10_ZealTurn.j0 k a1 t568 true a0_0 l0_1 l0_2 l0_3)) else (sennitlaw10_ZealTurn.j0 k a1 t568 true a0_0 l0_1 l0_2 l0_3)))
theorem sennitlaw10_ZealTurn.j2_no (k_ : Nat) {x0 : Bool} {x1 : Int} {x2 : List (S27)} {x3 : List (S27)} {x4 : Int} {x6 : Bool} {x7 : List ByteArray} {x8 : List ByteArray} {x9 : List (List ByteArray)} {r : Bool} (h : sennitlaw10_ZealTurn.j2 k_ x0 x1 x2 x3 x4 true x6 x7 x8 x9 = some r) : False := by cases k_ <;> simp [sennitlaw10_ZealTurn.j2] at h
theorem sennitlaw10_ZealTurn.mono_l : ∀ k, (∀ y0 y1 y2 y3 y4 y5 y6, LeO (sennitlaw10_ZealTurn.j0 k y0 y1 y2 y3 y4 y5 y6) (sennitlaw10_ZealTurn.j0 (k + 1) y0 y1 y2 y3 y4 y5 y6)) ∧ (∀ y0 y1 y2 y3 y4 y5 y6 y7 y8, LeO (sennitlaw10_ZealTurn.l0 k y0 y1 y2 y3 y4 y5 y6 y7 y8) (sennitlaw10_ZealTurn.l0 (k + 1) y0 y1 y2 y3 y4 y5 y6 y7 y8)) ∧ (∀ y0 y1 y2 y3 y4 y5 y6 y7 y8 y9, LeO (sennitlaw10_ZealTurn.j2 k y0 y1 y2 y3 y4 y5 y6 y7 y8 y9) (sennitlaw10_ZealTurn.j2 (k + 1) y0 y1 y2 y3 y4 y5 y6 y7 y8 y9)) ∧ (∀ y0 y1 y2 y3 y4 y5 y6 y7 y8 y9, LeO (sennitlaw10_ZealTurn.l1 k y0 y1 y2 y3 y4 y5 y6 y7 y8 y9) (sennitlaw10_ZealTurn.l1 (k + 1) y0 y1 y2 y3 y4 y5 y6 y7 y8 y9))
 | 0 => ⟨fun _ _ _ _ _ _ _ r h => by simp [sennitlaw10_ZealTurn.j0] at h, fun _ _ _ _ _ _ _ _ _ r h => by simp [sennitlaw10_ZealTurn.l0] at h, fun _ _ _ _ _ _ _ _ _ _ r h => by simp [sennitlaw10_ZealTurn.j2] at h, fun _ _ _ _ _ _ _ _ _ _ r h => by simp [sennitlaw10_ZealTurn.l1] at h⟩
 | k + 1 => by
  obtain ⟨ih0, ih1, ih2, ih3⟩ := sennitlaw10_ZealTurn.mono_l k
  refine ⟨?_, ?_, ?_, ?_⟩
  ·intro y0 y1 y2 y3 y4 y5 y6
   unfold sennitlaw10_ZealTurn.j0
   repeat' first
   | (with_reducible exact ih0 _ _ _ _ _ _ _)
   | (with_reducible exact ih1 _ _ _ _ _ _ _ _ _)
   | (with_reducible exact ih2 _ _ _ _ _ _ _ _ _ _)
   | (with_reducible exact ih3 _ _ _ _ _ _ _ _ _ _)
   | (with_reducible exact pick_Clean.mono _ _)
   | (with_reducible exact sennitlaw10_awake.mono _)
   | (with_reducible exact sennitref01_Same.mono _ _ _)
   | (with_reducible exact sennitref06_Differing.mono _ _ _)
   | (with_reducible exact sennitref07_Few.mono _ _)
   | (with_reducible exact zeal_Trim.mono _ _ _ _ _)
   | (with_reducible exact LeO.refl _)
   | (with_reducible exact LeO.none _)
   | (with_reducible refine LeO.ite ?_ ?_)
   | (with_reducible refine LeO.bind ?_ (fun _ => ?_))
   | exact ih0 _ _ _ _ _ _ _
   | exact ih1 _ _ _ _ _ _ _ _ _
   | exact ih2 _ _ _ _ _ _ _ _ _ _
   | exact ih3 _ _ _ _ _ _ _ _ _ _
   | exact pick_Clean.mono _ _
   | exact sennitlaw10_awake.mono _
   | exact sennitref01_Same.mono _ _ _
   | exact sennitref06_Differing.mono _ _ _
   | exact sennitref07_Few.mono _ _
   | exact zeal_Trim.mono _ _ _ _ _
   | exact LeO.none _
   | refine LeO.ite ?_ ?_
   | refine LeO.bind ?_ (fun _ => ?_)
  ·intro y0 y1 y2 y3 y4 y5 y6 y7 y8
   unfold sennitlaw10_ZealTurn.l0
   repeat' first
   | (with_reducible exact ih0 _ _ _ _ _ _ _)
   | (with_reducible exact ih1 _ _ _ _ _ _ _ _ _)
   | (with_reducible exact ih2 _ _ _ _ _ _ _ _ _ _)
   | (with_reducible exact ih3 _ _ _ _ _ _ _ _ _ _)
   | (with_reducible exact pick_Clean.mono _ _)
   | (with_reducible exact sennitlaw10_awake.mono _)
   | (with_reducible exact sennitref01_Same.mono _ _ _)
   | (with_reducible exact sennitref06_Differing.mono _ _ _)
   | (with_reducible exact sennitref07_Few.mono _ _)
   | (with_reducible exact zeal_Trim.mono _ _ _ _ _)
   | (with_reducible exact LeO.refl _)
   | (with_reducible exact LeO.none _)
   | (with_reducible refine LeO.ite ?_ ?_)
   | (with_reducible refine LeO.bind ?_ (fun _ => ?_))
   | exact ih0 _ _ _ _ _ _ _
   | exact ih1 _ _ _ _ _ _ _ _ _
   | exact ih2 _ _ _ _ _ _ _ _ _ _
   | exact ih3 _ _ _ _ _ _ _ _ _ _
   | exact pick_Clean.mono _ _
   | exact sennitlaw10_awake.mono _
   | exact sennitref01_Same.mono _ _ _
   | exact sennitref06_Differing.mono _ _ _
   | exact sennitref07_Few.mono _ _
   | exact zeal_Trim.mono _ _ _ _ _
   | exact LeO.none _
   | refine LeO.ite ?_ ?_
   | refine LeO.bind ?_ (fun _ => ?_)
  ·intro y0 y1 y2 y3 y4 y5 y6 y7 y8 y9
   unfold sennitlaw10_ZealTurn.j2
   repeat' first
   | (with_reducible exact ih0 _ _ _ _ _ _ _)
   | (with_reducible exact ih1 _ _ _ _ _ _ _ _ _)
   | (with_reducible exact ih2 _ _ _ _ _ _ _ _ _ _)
   | (with_reducible exact ih3 _ _ _ _ _ _ _ _ _ _)
   | (with_reducible exact pick_Clean.mono _ _)
   | (with_reducible exact sennitlaw10_awake.mono _)
   | (with_reducible exact sennitref01_Same.mono _ _ _)
   | (with_reducible exact sennitref06_Differing.mono _ _ _)
   | (with_reducible exact sennitref07_Few.mono _ _)
   | (with_reducible exact zeal_Trim.mono _ _ _ _ _)
   | (with_reducible exact LeO.refl _)
   | (with_reducible exact LeO.none _)
   | (with_reducible refine LeO.ite ?_ ?_)
   | (with_reducible refine LeO.bind ?_ (fun _ => ?_))
   | exact ih0 _ _ _ _ _ _ _
   | exact ih1 _ _ _ _ _ _ _ _ _
   | exact ih2 _ _ _ _ _ _ _ _ _ _
   | exact ih3 _ _ _ _ _ _ _ _ _ _
   | exact pick_Clean.mono _ _
   | exact sennitlaw10_awake.mono _
   | exact sennitref01_Same.mono _ _ _
   | exact sennitref06_Differing.mono _ _ _
   | exact sennitref07_Few.mono _ _
   | exact zeal_Trim.mono _ _ _ _ _
   | exact LeO.none _
   | refine LeO.ite ?_ ?_
   | refine LeO.bind ?_ (fun _ => ?_)
  ·intro y0 y1 y2 y3 y4 y5 y6 y7 y8 y9
   unfold sennitlaw10_ZealTurn.l1
   repeat' first
   | (with_reducible exact ih0 _ _ _ _ _ _ _)
   | (with_reducible exact ih1 _ _ _ _ _ _ _ _ _)
   | (with_reducible exact ih2 _ _ _ _ _ _ _ _ _ _)
   | (with_reducible exact ih3 _ _ _ _ _ _ _ _ _ _)
   | (with_reducible exact pick_Clean.mono _ _)
   | (with_reducible exact sennitlaw10_awake.mono _)
   | (with_reducible exact sennitref01_Same.mono _ _ _)
   | (with_reducible exact sennitref06_Differing.mono _ _ _)
   | (with_reducible exact sennitref07_Few.mono _ _)
   | (with_reducible exact zeal_Trim.mono _ _ _ _ _)
   | (with_reducible exact LeO.refl _)
   | (with_reducible exact LeO.none _)
   | (with_reducible refine LeO.ite ?_ ?_)
   | (with_reducible refine LeO.bind ?_ (fun _ => ?_))
   | exact ih0 _ _ _ _ _ _ _
   | exact ih1 _ _ _ _ _ _ _ _ _
   | exact ih2 _ _ _ _ _ _ _ _ _ _
   | exact ih3 _ _ _ _ _ _ _ _ _ _
   | exact pick_Clean.mono _ _
   | exact sennitlaw10_awake.mono _
   | exact sennitref01_Same.mono _ _ _
   | exact sennitref06_Differing.mono _ _ _
   | exact sennitref07_Few.mono _ _
   | exact zeal_Trim.mono _ _ _ _ _
   | exact LeO.none _
   | refine LeO.ite ?_ ?_
   | refine LeO.bind ?_ (fun _ => ?_)
theorem sennitlaw10_ZealTurn.mono : ∀ a0 a1 a2 a3 a4 k, LeO (sennitlaw10_ZealTurn.f k a0 a1 a2 a3 a4) (sennitlaw10_ZealTurn.f (k + 1) a0 a1 a2 a3 a4) := by
 intro a0 a1 a2 a3 a4 k
 obtain ⟨ih0, ih1, ih2, ih3⟩ := sennitlaw10_ZealTurn.mono_l k
 unfold sennitlaw10_ZealTurn.f
 repeat' first
   | (with_reducible exact ih0 _ _ _ _ _ _ _)
   | (with_reducible exact ih1 _ _ _ _ _ _ _ _ _)
   | (with_reducible exact ih2 _ _ _ _ _ _ _ _ _ _)
   | (with_reducible exact ih3 _ _ _ _ _ _ _ _ _ _)
   | (with_reducible exact pick_Clean.mono _ _)
   | (with_reducible exact sennitlaw10_awake.mono _)
   | (with_reducible exact sennitref01_Same.mono _ _ _)
   | (with_reducible exact sennitref06_Differing.mono _ _ _)
   | (with_reducible exact sennitref07_Few.mono _ _)
   | (with_reducible exact zeal_Trim.mono _ _ _ _ _)
   | (with_reducible exact LeO.refl _)
   | (with_reducible exact LeO.none _)
   | (with_reducible refine LeO.ite ?_ ?_)
   | (with_reducible refine LeO.bind ?_ (fun _ => ?_))
   | exact ih0 _ _ _ _ _ _ _
   | exact ih1 _ _ _ _ _ _ _ _ _
   | exact ih2 _ _ _ _ _ _ _ _ _ _
   | exact ih3 _ _ _ _ _ _ _ _ _ _
   | exact pick_Clean.mono _ _
   | exact sennitlaw10_awake.mono _
   | exact sennitref01_Same.mono _ _ _
   | exact sennitref06_Differing.mono _ _ _
   | exact sennitref07_Few.mono _ _
   | exact zeal_Trim.mono _ _ _ _ _
   | exact LeO.none _
   | refine LeO.ite ?_ ?_
   | refine LeO.bind ?_ (fun _ => ?_)
def sennitlaw10_ZealTurn.T6 : Bool × List (List Nat × List Nat) := (true, [([], []), ([], []), ([1], [1]), ([], []), ([2, 3], [2, 3]), ([0, 4], [0, 4]), ([], []), ([6], [6]), ([], []), ([7, 8], [7, 8]), ([5, 9, 5], [5, 9]), ([0, 1, 2, 3, 4, 5, 6, 7, 8, 9, 10], []), ([11, 10, 10, 0, 1, 2, 3, 4, 5, 6, 7, 8, 9, 10], [10, 11])])
def sennitlaw10_ZealTurn.B6 : List Nat := [0, 0, 2, 0, 14, 31, 0, 64, 0, 448, 1023, 2047, 4095]
theorem sennitlaw10_ZealTurn.tab6 : rtab .any (opsOf Try.f13 6) = sennitlaw10_ZealTurn.T6 := by kernel_rfl
theorem sennitlaw10_ZealTurn.bits6 : waitsOk sennitlaw10_ZealTurn.T6.2 sennitlaw10_ZealTurn.B6 = true := by kernel_rfl
def sennitlaw10_ZealTurn.T14 : Bool × List (List Nat × List Nat) := (true, [([], []), ([], []), ([0, 1], [0, 1]), ([2], [2]), ([3], [3]), ([], []), ([], []), ([5, 6], [5, 6]), ([7], [7]), ([8], [8]), ([4, 9], [4, 9]), ([10], [10]), ([11], [11]), ([11], [11]), ([12, 13, 11], [11, 12, 13]), ([14, 11], [11, 14]), ([15, 11], [11, 15]), ([11], [11]), ([11], [11]), ([17, 18, 11], [11, 17, 18]), ([19, 11], [11, 19]), ([20, 11], [11, 20]), ([16, 21, 11, 11], [11, 16, 21]), ([22, 11], [11, 22]), ([11, 23], [11, 23]), ([24, 22], [24]), ([25], [25]), ([25], [25]), ([26, 27, 25], [25, 26, 27]), ([28, 25], [25, 28]), ([29, 25], [25, 29]), ([30, 25], [25, 30]), ([25], [25]), ([25], [25]), ([32, 33, 25], [25, 32, 33]), ([34, 25], [25, 34]), ([35, 25], [25, 35]), ([36, 25], [25, 36]), ([31, 37, 25], [25, 31, 37]), ([25, 38], [25, 38])])
def sennitlaw10_ZealTurn.B14 : List Nat := [0, 0, 3, 7, 15, 0, 0, 96, 224, 480, 1023, 2047, 4095, 4095, 16383, 32767, 65535, 4095, 4095, 397311, 921599, 1970175, 4194303, 8388607, 16777215, 33554431, 67108863, 67108863, 268435455, 536870911, 1073741823, 2147483647, 67108863, 67108863, 12952010751, 30131879935, 64491618303, 133211095039, 274877906943, 549755813887]
theorem sennitlaw10_ZealTurn.tab14 : rtab .any (opsOf Try.f13 14) = sennitlaw10_ZealTurn.T14 := by kernel_rfl
theorem sennitlaw10_ZealTurn.bits14 : waitsOk sennitlaw10_ZealTurn.T14.2 sennitlaw10_ZealTurn.B14 = true := by kernel_rfl
def sennitlaw10_ZealTurn.T19 : Bool × List (List Nat × List Nat) := (true, [([], []), ([], []), ([0, 1], [0, 1]), ([2], [2]), ([3], [3]), ([], []), ([4, 5], [4, 5]), ([6], [6]), ([], []), ([], []), ([8, 9], [8, 9]), ([10], [10]), ([11], [11]), ([], []), ([], []), ([13, 14], [13, 14]), ([], []), ([], []), ([16, 17], [16, 17]), ([18], [18]), ([19], [19]), ([20], [20]), ([15, 21], [15, 21]), ([12, 22], [12, 22]), ([23], [23]), ([7, 24], [7, 24]), ([25], [25])])
def sennitlaw10_ZealTurn.B19 : List Nat := [0, 0, 3, 7, 15, 0, 63, 127, 0, 0, 768, 1792, 3840, 0, 0, 24576, 0, 0, 196608, 458752, 983040, 2031616, 4186112, 8388352, 16776960, 33554431, 67108863]
theorem sennitlaw10_ZealTurn.tab19 : rtab .any (opsOf Try.f13 19) = sennitlaw10_ZealTurn.T19 := by kernel_rfl
theorem sennitlaw10_ZealTurn.bits19 : waitsOk sennitlaw10_ZealTurn.T19.2 sennitlaw10_ZealTurn.B19 = true := by kernel_rfl
def sennitlaw10_ZealTurn.T21 : Bool × List (List Nat × List Nat) := (true, [([], []), ([0], [0]), ([1], [1]), ([2, 1, 1], [1, 2]), ([1], [1]), ([4, 1], [1, 4]), ([5, 1], [1, 5]), ([6, 1], [1, 6]), ([1], [1]), ([8, 1], [1, 8]), ([7, 9, 3, 1], [1, 7, 9]), ([10, 1], [1, 10]), ([11, 1], [1, 11]), ([3, 12, 1], [1, 3, 12]), ([1, 13], [1, 13]), ([14, 10, 0, 1, 2, 3, 4, 5, 6, 7, 8, 9, 10, 11, 12, 13, 14], [14])])
def sennitlaw10_ZealTurn.B21 : List Nat := [0, 1, 3, 7, 3, 19, 51, 115, 3, 259, 1023, 2047, 4095, 8191, 16383, 32767]
theorem sennitlaw10_ZealTurn.tab21 : rtab .any (opsOf Try.f13 21) = sennitlaw10_ZealTurn.T21 := by kernel_rfl
theorem sennitlaw10_ZealTurn.bits21 : waitsOk sennitlaw10_ZealTurn.T21.2 sennitlaw10_ZealTurn.B21 = true := by kernel_rfl
set_option maxHeartbeats 8000000 in
set_option maxRecDepth 100000 in
theorem sennitlaw10_ZealTurn.calls (k : Nat) (a0_0 : Bool) (P0_1_ : Nat → Prop) (A0_1 : Option Addr) (c0_1 : Nat) (l0_1 : List ByteArray) (P0_2_ : Nat → Prop) (A0_2 : Option Addr) (c0_2 : Nat) (l0_2 : List ByteArray) (P0_3_ : Nat → Prop) (A0_3 : Option Addr) (c0_3 : Nat) (l0_3 : List (List ByteArray)) (a1 : Int) (r : Bool) (w : World) (hs0_1 : Kd.V Kd.string 9 w w.heap.size (fun k_ => P0_1_ k_) (.slice A0_1 l0_1.length c0_1) l0_1) (hs0_2 : Kd.V Kd.string 9 w w.heap.size (fun k_ => P0_2_ k_) (.slice A0_2 l0_2.length c0_2) l0_2) (hs0_3 : Kd.V (Kd.slice 9 Kd.string) 22 w w.heap.size (fun k_ => P0_3_ k_) (.slice A0_3 l0_3.length c0_3) l0_3) (h : sennitlaw10_ZealTurn.f k a0_0 l0_1 l0_2 l0_3 a1 = some r) :
  Calls Try.prog 13 #[.agg #[.bool a0_0, .slice A0_1 l0_1.length c0_1, .slice A0_2 l0_2.length c0_2, .slice A0_3 l0_3.length c0_3], .int .u8 a1] w fun e w' => e = .returned (.bool r) ∧ Below w.heap.size w w' := by
 have hu27 := Try.underlying27
 have HO0_1 := am (show Kd.V Kd.string 9 w w.heap.size (fun k_ => ((P0_1_ k_ ∨ P0_2_ k_ ∨ P0_3_ k_) ∨ w.heap.size ≤ k_)) (.slice A0_1 l0_1.length c0_1) l0_1 from Kd.V_mono hs0_1 (fun k_ hk => .inl (.inl hk)))
 have HO0_2 := am (show Kd.V Kd.string 9 w w.heap.size (fun k_ => ((P0_1_ k_ ∨ P0_2_ k_ ∨ P0_3_ k_) ∨ w.heap.size ≤ k_)) (.slice A0_2 l0_2.length c0_2) l0_2 from Kd.V_mono hs0_2 (fun k_ hk => .inl (.inr (.inl hk))))
 have HO0_3 := am (show Kd.V (Kd.slice 9 Kd.string) 22 w w.heap.size (fun k_ => ((P0_1_ k_ ∨ P0_2_ k_ ∨ P0_3_ k_) ∨ w.heap.size ≤ k_)) (.slice A0_3 l0_3.length c0_3) l0_3 from Kd.V_mono hs0_3 (fun k_ hk => .inl (.inr (.inr hk))))
 have HB := am (Below.refl w.heap.size w)
 have H : ((sennitlaw10_awake.f k).bind fun t568 => ((sennitref07_Few.f k (([(⟨a0_0, l0_1, l0_2, l0_3⟩ : S27)] : List (S27)))).bind fun t572 => (if t572 = true then (if a0_0 = true then (sennitlaw10_ZealTurn.j0 k a1 t568 ((l0_3.length : Int) == 0) a0_0 l0_1 l0_2 l0_3) else (sennitlaw10_ZealTurn.j0 k a1 t568 true a0_0 l0_1 l0_2 l0_3)) else (sennitlaw10_ZealTurn.j0 k a1 t568 true a0_0 l0_1 l0_2 l0_3)))) = some r := h
 clear h
 replace H := Option.bind_eq_some_iff.mp H
 obtain ⟨t568, A30, H⟩ := H
 replace H : ((sennitref07_Few.f k (([(⟨a0_0, l0_1, l0_2, l0_3⟩ : S27)] : List (S27)))).bind fun t572 => (if t572 = true then (if a0_0 = true then (sennitlaw10_ZealTurn.j0 k a1 t568 ((l0_3.length : Int) == 0) a0_0 l0_1 l0_2 l0_3) else (sennitlaw10_ZealTurn.j0 k a1 t568 true a0_0 l0_1 l0_2 l0_3)) else (sennitlaw10_ZealTurn.j0 k a1 t568 true a0_0 l0_1 l0_2 l0_3))) = some r := H
 have A3 := am A30
 clear A30
 have HC4 := am H
 clear H
 go_enter Try.func13, Try.ntmps13
 go_upto_region 2 with (first | ((with_reducible refine gate_dst (N := 2) rfl ?_); (try (refine gate_guard (by rfl) ?_; dsimp only)); refine box_event ?hg (N := 2) ?hd (cs := #[.bool a0_0, .slice A0_1 l0_1.length c0_1, .slice A0_2 l0_2.length c0_2, .slice A0_3 l0_3.length c0_3]) (t := 27) ?hr ?_; (case hd => rfl); (case hg => rfl); (case hr => first | (go_simp; done) | (go_simp; rfl)); intro gb567 hg w5 hbox hb; have n0_ := am (Kd.V_below (Kd.V_elderB (by (with_reducible repeat (first | apply vA | apply vN | apply vD)); exact HO0_1.out) gb567 (Nat.le_of_eq hg.symm)) hb); have n1_ := am (Kd.V_below (Kd.V_elderB (by (with_reducible repeat (first | apply vA | apply vN | apply vD)); exact HO0_2.out) gb567 (Nat.le_of_eq hg.symm)) hb); have n2_ := am (Kd.V_below (Kd.V_elderB (by (with_reducible repeat (first | apply vA | apply vN | apply vD)); exact HO0_3.out) gb567 (Nat.le_of_eq hg.symm)) hb); have n3_ := am (below_step (by repeat (with_reducible first | exact HB.out | apply bA | apply bN | apply bD)) hb); have n4_ := am (hbox); have n5_ := am ((by rw [hg]; exact (below_size (by repeat (with_reducible first | exact HB.out | apply bA | apply bN | apply bD))) : w.heap.size ≤ gb567)); have n6_ := am ((by rw [hg]; exact (below_size (by repeat (with_reducible first | exact HB.out | apply bA | apply bN | apply bD))) : w.heap.size ≤ gb567)); clear HO0_1; clear HO0_2; clear HO0_3; clear HB; have HO0_1 := n0_; have HO0_2 := n1_; have HO0_3 := n2_; have HB := n3_; have BK567 := n4_; have GW567 := n5_; have GE567 := n6_; clear n0_ n1_ n2_ n3_ n4_ n5_ n6_; clear hb hbox hg) | ((with_reducible refine gate_callee (f := 35) rfl ?_); refine goesL_ (some 12) rfl rfl Try.func35 (by kernel_rfl) rfl #[] rfl (by (try simp only [List.map_toArray, List.map_cons, List.map_nil]); first | done | rfl | (simp only [List.length_drop, List.length_take]; rfl)) ?_; (with_reducible refine (sennitlaw10_awake.calls k  t568 _ A3.out).mono ?_); rintro e w6 ⟨rfl, hb⟩; refine ⟨_, rfl, ?_⟩; have n0_ := am (Kd.V_below (by (with_reducible repeat (first | apply vA | apply vN | apply vD)); exact HO0_1.out) hb); have n1_ := am (Kd.V_below (by (with_reducible repeat (first | apply vA | apply vN | apply vD)); exact HO0_2.out) hb); have n2_ := am (Kd.V_below (by (with_reducible repeat (first | apply vA | apply vN | apply vD)); exact HO0_3.out) hb); have n3_ := am (blk_below (g := gb567) (o := .cells #[.bool a0_0, .slice A0_1 l0_1.length c0_1, .slice A0_2 l0_2.length c0_2, .slice A0_3 l0_3.length c0_3] 27 (0, 0)) (by (with_reducible repeat (first | refine blk_drewN ?_ _ | refine blk_drew ?_ | refine blk_alloc ?_ _)); exact BK567.out) hb); have n4_ := am (below_step (by repeat (first | (with_reducible first | exact HB.out | apply below_alloc | apply pw_below_drewN | apply below_drew1 | refine below_set ?_ GE567.out) | exact HB.out)) hb); clear HO0_1; clear HO0_2; clear HO0_3; clear BK567; clear HB; have HO0_1 := n0_; have HO0_2 := n1_; have HO0_3 := n2_; have BK567 := n3_; have HB := n4_; clear n0_ n1_ n2_ n3_ n4_; (try clear hb); (try clear hb2); (try clear hk); (try clear hi)))
 (try simp only [Act.put, List.setIfInBounds_toArray, List.set_cons_zero, List.set_cons_succ])
 go_cut [27] (fun v27 wc => ∃ (kq : Nat) (x27_3 : Bool), v27 = .bool x27_3 ∧ Aside0 (sennitlaw10_ZealTurn.j0 kq a1 t568 x27_3 a0_0 l0_1 l0_2 l0_3 = some r) ∧ Aside0 (kq ≤ k) ∧ Aside0 (Kd.V Kd.string 9 wc w.heap.size (fun k_ => ((P0_1_ k_ ∨ P0_2_ k_ ∨ P0_3_ k_) ∨ w.heap.size ≤ k_) ∧ k_ ≠ gb567) (.slice A0_1 l0_1.length c0_1) l0_1) ∧ Aside0 (Kd.V Kd.string 9 wc w.heap.size (fun k_ => ((P0_1_ k_ ∨ P0_2_ k_ ∨ P0_3_ k_) ∨ w.heap.size ≤ k_) ∧ k_ ≠ gb567) (.slice A0_2 l0_2.length c0_2) l0_2) ∧ Aside0 (Kd.V (Kd.slice 9 Kd.string) 22 wc w.heap.size (fun k_ => ((P0_1_ k_ ∨ P0_2_ k_ ∨ P0_3_ k_) ∨ w.heap.size ≤ k_) ∧ k_ ≠ gb567) (.slice A0_3 l0_3.length c0_3) l0_3) ∧ Aside0 (wc.heap[gb567]? = some (.cells #[.bool a0_0, (.slice A0_1 l0_1.length c0_1), (.slice A0_2 l0_2.length c0_2), (.slice A0_3 l0_3.length c0_3)] 27 (0, 0))) ∧ Aside0 (Below w.heap.size w wc))
 case first =>
  have H := HC4.out
  clear HC4
  obtain ⟨y569, hy569⟩ : ∃ y_ : List (S27), y_ = (([(⟨a0_0, l0_1, l0_2, l0_3⟩ : S27)] : List (S27))) := ⟨_, rfl⟩
  replace H : ((sennitref07_Few.f k y569).bind fun t572 => (if t572 = true then (if a0_0 = true then (sennitlaw10_ZealTurn.j0 k a1 t568 ((l0_3.length : Int) == 0) a0_0 l0_1 l0_2 l0_3) else (sennitlaw10_ZealTurn.j0 k a1 t568 true a0_0 l0_1 l0_2 l0_3)) else (sennitlaw10_ZealTurn.j0 k a1 t568 true a0_0 l0_1 l0_2 l0_3))) = some r := by first | (rw [hy569]; with_reducible exact H) | (have H2_ := (Option.bind_some _ _).symm.trans H; rw [hy569]; with_reducible exact H2_) | (have H2_ := (Option.bind_some _ _).symm.trans H; with_reducible exact H2_) | with_reducible exact H | (rw [hy569]; exact H) | exact H
  have Ny569 := am hy569
  clear hy569
  replace H := Option.bind_eq_some_iff.mp H
  obtain ⟨t572, A70, H⟩ := H
  replace H : (if t572 = true then (if a0_0 = true then (sennitlaw10_ZealTurn.j0 k a1 t568 ((l0_3.length : Int) == 0) a0_0 l0_1 l0_2 l0_3) else (sennitlaw10_ZealTurn.j0 k a1 t568 true a0_0 l0_1 l0_2 l0_3)) else (sennitlaw10_ZealTurn.j0 k a1 t568 true a0_0 l0_1 l0_2 l0_3)) = some r := H
  have A7 := am A70
  clear A70
  by_cases c8 : t572 = true
  ·subst c8
   have H1 : (if a0_0 = true then (sennitlaw10_ZealTurn.j0 k a1 t568 ((l0_3.length : Int) == 0) a0_0 l0_1 l0_2 l0_3) else (sennitlaw10_ZealTurn.j0 k a1 t568 true a0_0 l0_1 l0_2 l0_3)) = some r := by rw [if_pos rfl] at H; exact H
   clear H
   have H := H1
   clear H1
   by_cases c9 : a0_0 = true
   ·subst c9
    have H1 : (sennitlaw10_ZealTurn.j0 k a1 t568 ((l0_3.length : Int) == 0) true l0_1 l0_2 l0_3) = some r := by rw [if_pos rfl] at H; exact H
    clear H
    have H := H1
    clear H1
    have H' := am H
    clear H
    have hcz10_0 : w6.cell? ⟨gb567, 0, none⟩ = some (.bool true) := (blk_cell BK567.out 0).trans rfl
    have hcz10_1 : w6.cell? ⟨gb567, 1, none⟩ = some (.slice A0_1 l0_1.length c0_1) := (blk_cell BK567.out 1).trans rfl
    have hcz10_2 : w6.cell? ⟨gb567, 2, none⟩ = some (.slice A0_2 l0_2.length c0_2) := (blk_cell BK567.out 2).trans rfl
    have hcz10_3 : w6.cell? ⟨gb567, 3, none⟩ = some (.slice A0_3 l0_3.length c0_3) := (blk_cell BK567.out 3).trans rfl
    have hfz10_0 := blk_frozen BK567.out 0
    have hfz10_1 := blk_frozen BK567.out 1
    have hfz10_2 := blk_frozen BK567.out 2
    have hfz10_3 := blk_frozen BK567.out 3
    go_wp2_with (first | ((with_reducible refine gate_dst (N := 14) rfl ?_); (try (refine gate_guard (by rfl) ?_; dsimp only)); refine Kd.N_lit k27 _ 27 ?hg (N' := 14) ?hd (xs := ([(⟨true, l0_1, l0_2, l0_3⟩ : S27)] : List (S27))) (inner := [.bool true, .slice A0_1 l0_1.length c0_1, .slice A0_2 l0_2.length c0_2, .slice A0_3 l0_3.length c0_3]) (ok := (fun k_ => ((P0_1_ k_ ∨ P0_2_ k_ ∨ P0_3_ k_) ∨ w.heap.size ≤ k_) ∧ k_ ≠ gb567)) (okp := (fun k_ => ((P0_1_ k_ ∨ P0_2_ k_ ∨ P0_3_ k_) ∨ w.heap.size ≤ k_) ∧ k_ ≠ gb567)) ?hr ?hp (fun _ hk => hk) ((show ∀ k_, w6.heap.size ≤ k_ → (fun k_ => ((P0_1_ k_ ∨ P0_2_ k_ ∨ P0_3_ k_) ∨ w.heap.size ≤ k_) ∧ k_ ≠ gb567) k_ from fun k_ hk => ⟨(.inr (Nat.le_trans (below_size (by repeat (first | (with_reducible first | exact HB.out | apply below_alloc | apply pw_below_drewN | apply below_drew1 | refine below_set ?_ GE567.out) | exact HB.out))) hk)), Kd.freshB (g := gb567) (o := .cells #[.bool true, .slice A0_1 l0_1.length c0_1, .slice A0_2 l0_2.length c0_2, .slice A0_3 l0_3.length c0_3] 27 (0, 0)) (by (with_reducible repeat (first | refine blk_drewN ?_ _ | refine blk_drew ?_ | refine blk_alloc ?_ _)); exact BK567.out) k_ hk⟩) _ (Nat.le_refl _)) (Below.refl _ _) (Nat.le_refl _) (by simp) ?_; (case hd => rfl); (case hg => rfl); (case hr => first | (go_simp; done) | (go_simp; rfl)); (case hp => exact (Reps.c4 (show Kd.FK k27 _ _ (⟨true, l0_1, l0_2, l0_3⟩ : S27) [.bool true, .slice A0_1 l0_1.length c0_1, .slice A0_2 l0_2.length c0_2, .slice A0_3 l0_3.length c0_3] from (k27_mkF _ _ (⟨true, l0_1, l0_2, l0_3⟩ : S27) (Kd.V_reads' (Kd.V_mono (ok' := (fun k_ => ((P0_1_ k_ ∨ P0_2_ k_ ∨ P0_3_ k_) ∨ w.heap.size ≤ k_) ∧ k_ ≠ gb567)) (HO0_1.out) (fun k_ hk => ⟨hk.1, hk.2⟩))).2.1 (Kd.V_F (Kd.V_mono (ok' := (fun k_ => ((P0_1_ k_ ∨ P0_2_ k_ ∨ P0_3_ k_) ∨ w.heap.size ≤ k_) ∧ k_ ≠ gb567)) (HO0_1.out) (fun k_ hk => ⟨hk.1, hk.2⟩))) (Kd.V_reads' (Kd.V_mono (ok' := (fun k_ => ((P0_1_ k_ ∨ P0_2_ k_ ∨ P0_3_ k_) ∨ w.heap.size ≤ k_) ∧ k_ ≠ gb567)) (HO0_2.out) (fun k_ hk => ⟨hk.1, hk.2⟩))).2.1 (Kd.V_F (Kd.V_mono (ok' := (fun k_ => ((P0_1_ k_ ∨ P0_2_ k_ ∨ P0_3_ k_) ∨ w.heap.size ≤ k_) ∧ k_ ≠ gb567)) (HO0_2.out) (fun k_ hk => ⟨hk.1, hk.2⟩))) (Kd.V_reads' (Kd.V_mono (ok' := (fun k_ => ((P0_1_ k_ ∨ P0_2_ k_ ∨ P0_3_ k_) ∨ w.heap.size ≤ k_) ∧ k_ ≠ gb567)) (HO0_3.out) (fun k_ hk => ⟨hk.1, hk.2⟩))).2.1 (Kd.V_F (Kd.V_mono (ok' := (fun k_ => ((P0_1_ k_ ∨ P0_2_ k_ ∨ P0_3_ k_) ∨ w.heap.size ≤ k_) ∧ k_ ≠ gb567)) (HO0_3.out) (fun k_ hk => ⟨hk.1, hk.2⟩))))) (Reps.none _ _))); intro v570 w11 ho12 hb hg_ hnew_; clear hg_ hnew_; rw [← Ny569.out] at ho12; have n0_ := am (Kd.V_elder' (by (with_reducible repeat (first | apply vA | apply vN | apply vD)); exact HO0_1.out) (Kd.N_base ho12) hb); have n1_ := am (Kd.V_elder' (by (with_reducible repeat (first | apply vA | apply vN | apply vD)); exact HO0_2.out) (Kd.N_base ho12) hb); have n2_ := am (Kd.V_elder' (by (with_reducible repeat (first | apply vA | apply vN | apply vD)); exact HO0_3.out) (Kd.N_base ho12) hb); have n3_ := am (Kd.N_lower ho12 (below_size (by repeat (first | (with_reducible first | exact HB.out | apply below_alloc | apply pw_below_drewN | apply below_drew1 | refine below_set ?_ GE567.out) | exact HB.out)))); have n4_ := am (blk_below (g := gb567) (o := .cells #[.bool true, .slice A0_1 l0_1.length c0_1, .slice A0_2 l0_2.length c0_2, .slice A0_3 l0_3.length c0_3] 27 (0, 0)) (by (with_reducible repeat (first | refine blk_drewN ?_ _ | refine blk_drew ?_ | refine blk_alloc ?_ _)); exact BK567.out) hb); have n5_ := am (below_step (by repeat (first | (with_reducible first | exact HB.out | apply below_alloc | apply pw_below_drewN | apply below_drew1 | refine below_set ?_ GE567.out) | exact HB.out)) hb); clear HO0_1; clear HO0_2; clear HO0_3; clear BK567; clear HB; have HO0_1 := n0_; have HO0_2 := n1_; have HO0_3 := n2_; have HO571 := n3_; have BK567 := n4_; have HB := n5_; clear n0_ n1_ n2_ n3_ n4_ n5_; clear hb ho12; obtain ⟨Ao13, co13, eo13⟩ := Kd.N_slice HO571.out; subst eo13) | ((with_reducible refine gate_callee (f := 32) rfl ?_); refine goesL_ (some 15) rfl rfl Try.func32 (by kernel_rfl) rfl #[.slice Ao13 y569.length co13] rfl (by (try simp only [List.map_toArray, List.map_cons, List.map_nil]); first | done | rfl | (simp only [List.length_drop, List.length_take]; rfl)) ?_; (with_reducible refine (sennitref07_Few.calls k _ _ y569 true _ ?side1 ?side2 A7.out).mono ?_); (case side1 => repeat (first | exact (Kd.N_reads' HO571.out).2.2 | (with_reducible refine Kd.C_alloc ?_ _) | (with_reducible refine Kd.C_drewN ?_ _) | (with_reducible refine Kd.C_drew ?_))); (case side2 => exact (Kd.N_reads' HO571.out).2.1); rintro e w' ⟨rfl, ⟨nd, rfl⟩⟩; refine ⟨_, rfl, ?_⟩; have hcz14_0 : w11.cell? ⟨gb567, 0, none⟩ = some (.bool true) := (blk_cell BK567.out 0).trans rfl; have hcz14_1 : w11.cell? ⟨gb567, 1, none⟩ = some (.slice A0_1 l0_1.length c0_1) := (blk_cell BK567.out 1).trans rfl; have hcz14_2 : w11.cell? ⟨gb567, 2, none⟩ = some (.slice A0_2 l0_2.length c0_2) := (blk_cell BK567.out 2).trans rfl; have hcz14_3 : w11.cell? ⟨gb567, 3, none⟩ = some (.slice A0_3 l0_3.length c0_3) := (blk_cell BK567.out 3).trans rfl; have hfz14_0 := blk_frozen BK567.out 0; have hfz14_1 := blk_frozen BK567.out 1; have hfz14_2 := blk_frozen BK567.out 2; have hfz14_3 := blk_frozen BK567.out 3))
    go_meet
    case rel => exact ⟨_, (((l0_3.length : Int) == 0)), (by first | rfl | (simp; done) | (simp [*]; done)), H', ⟨by first | omega | exact Nat.le_refl _⟩, ⟨by (with_reducible repeat (first | apply vA | apply vN | apply vD)); exact Kd.V_mono HO0_1.out (fun _ hk => ⟨hk.1.1, hk.1.2⟩)⟩, ⟨by (with_reducible repeat (first | apply vA | apply vN | apply vD)); exact Kd.V_mono HO0_2.out (fun _ hk => ⟨hk.1.1, hk.1.2⟩)⟩, ⟨by (with_reducible repeat (first | apply vA | apply vN | apply vD)); exact Kd.V_mono HO0_3.out (fun _ hk => ⟨hk.1.1, hk.1.2⟩)⟩, ⟨by (with_reducible repeat (first | refine blk_drewN ?_ _ | refine blk_drew ?_ | refine blk_alloc ?_ _)); exact BK567.out⟩, ⟨by repeat (first | (with_reducible first | exact HB.out | apply below_alloc | apply pw_below_drewN | apply below_drew1 | refine below_set ?_ GE567.out) | exact HB.out)⟩⟩
   ·replace c9 := Bool.eq_false_iff.mpr c9
    subst c9
    have H1 : (sennitlaw10_ZealTurn.j0 k a1 t568 true false l0_1 l0_2 l0_3) = some r := by rw [if_neg (show ¬ (false = true) by decide)] at H; exact H
    clear H
    have H := H1
    clear H1
    have H' := am H
    clear H
    have hcz15_0 : w6.cell? ⟨gb567, 0, none⟩ = some (.bool false) := (blk_cell BK567.out 0).trans rfl
    have hcz15_1 : w6.cell? ⟨gb567, 1, none⟩ = some (.slice A0_1 l0_1.length c0_1) := (blk_cell BK567.out 1).trans rfl
    have hcz15_2 : w6.cell? ⟨gb567, 2, none⟩ = some (.slice A0_2 l0_2.length c0_2) := (blk_cell BK567.out 2).trans rfl
    have hcz15_3 : w6.cell? ⟨gb567, 3, none⟩ = some (.slice A0_3 l0_3.length c0_3) := (blk_cell BK567.out 3).trans rfl
    have hfz15_0 := blk_frozen BK567.out 0
    have hfz15_1 := blk_frozen BK567.out 1
    have hfz15_2 := blk_frozen BK567.out 2
    have hfz15_3 := blk_frozen BK567.out 3
    go_wp2_with (first | ((with_reducible refine gate_dst (N := 14) rfl ?_); (try (refine gate_guard (by rfl) ?_; dsimp only)); refine Kd.N_lit k27 _ 27 ?hg (N' := 14) ?hd (xs := ([(⟨false, l0_1, l0_2, l0_3⟩ : S27)] : List (S27))) (inner := [.bool false, .slice A0_1 l0_1.length c0_1, .slice A0_2 l0_2.length c0_2, .slice A0_3 l0_3.length c0_3]) (ok := (fun k_ => ((P0_1_ k_ ∨ P0_2_ k_ ∨ P0_3_ k_) ∨ w.heap.size ≤ k_) ∧ k_ ≠ gb567)) (okp := (fun k_ => ((P0_1_ k_ ∨ P0_2_ k_ ∨ P0_3_ k_) ∨ w.heap.size ≤ k_) ∧ k_ ≠ gb567)) ?hr ?hp (fun _ hk => hk) ((show ∀ k_, w6.heap.size ≤ k_ → (fun k_ => ((P0_1_ k_ ∨ P0_2_ k_ ∨ P0_3_ k_) ∨ w.heap.size ≤ k_) ∧ k_ ≠ gb567) k_ from fun k_ hk => ⟨(.inr (Nat.le_trans (below_size (by repeat (first | (with_reducible first | exact HB.out | apply below_alloc | apply pw_below_drewN | apply below_drew1 | refine below_set ?_ GE567.out) | exact HB.out))) hk)), Kd.freshB (g := gb567) (o := .cells #[.bool false, .slice A0_1 l0_1.length c0_1, .slice A0_2 l0_2.length c0_2, .slice A0_3 l0_3.length c0_3] 27 (0, 0)) (by (with_reducible repeat (first | refine blk_drewN ?_ _ | refine blk_drew ?_ | refine blk_alloc ?_ _)); exact BK567.out) k_ hk⟩) _ (Nat.le_refl _)) (Below.refl _ _) (Nat.le_refl _) (by simp) ?_; (case hd => rfl); (case hg => rfl); (case hr => first | (go_simp; done) | (go_simp; rfl)); (case hp => exact (Reps.c4 (show Kd.FK k27 _ _ (⟨false, l0_1, l0_2, l0_3⟩ : S27) [.bool false, .slice A0_1 l0_1.length c0_1, .slice A0_2 l0_2.length c0_2, .slice A0_3 l0_3.length c0_3] from (k27_mkF _ _ (⟨false, l0_1, l0_2, l0_3⟩ : S27) (Kd.V_reads' (Kd.V_mono (ok' := (fun k_ => ((P0_1_ k_ ∨ P0_2_ k_ ∨ P0_3_ k_) ∨ w.heap.size ≤ k_) ∧ k_ ≠ gb567)) (HO0_1.out) (fun k_ hk => ⟨hk.1, hk.2⟩))).2.1 (Kd.V_F (Kd.V_mono (ok' := (fun k_ => ((P0_1_ k_ ∨ P0_2_ k_ ∨ P0_3_ k_) ∨ w.heap.size ≤ k_) ∧ k_ ≠ gb567)) (HO0_1.out) (fun k_ hk => ⟨hk.1, hk.2⟩))) (Kd.V_reads' (Kd.V_mono (ok' := (fun k_ => ((P0_1_ k_ ∨ P0_2_ k_ ∨ P0_3_ k_) ∨ w.heap.size ≤ k_) ∧ k_ ≠ gb567)) (HO0_2.out) (fun k_ hk => ⟨hk.1, hk.2⟩))).2.1 (Kd.V_F (Kd.V_mono (ok' := (fun k_ => ((P0_1_ k_ ∨ P0_2_ k_ ∨ P0_3_ k_) ∨ w.heap.size ≤ k_) ∧ k_ ≠ gb567)) (HO0_2.out) (fun k_ hk => ⟨hk.1, hk.2⟩))) (Kd.V_reads' (Kd.V_mono (ok' := (fun k_ => ((P0_1_ k_ ∨ P0_2_ k_ ∨ P0_3_ k_) ∨ w.heap.size ≤ k_) ∧ k_ ≠ gb567)) (HO0_3.out) (fun k_ hk => ⟨hk.1, hk.2⟩))).2.1 (Kd.V_F (Kd.V_mono (ok' := (fun k_ => ((P0_1_ k_ ∨ P0_2_ k_ ∨ P0_3_ k_) ∨ w.heap.size ≤ k_) ∧ k_ ≠ gb567)) (HO0_3.out) (fun k_ hk => ⟨hk.1, hk.2⟩))))) (Reps.none _ _))); intro v570 w16 ho17 hb hg_ hnew_; clear hg_ hnew_; rw [← Ny569.out] at ho17; have n0_ := am (Kd.V_elder' (by (with_reducible repeat (first | apply vA | apply vN | apply vD)); exact HO0_1.out) (Kd.N_base ho17) hb); have n1_ := am (Kd.V_elder' (by (with_reducible repeat (first | apply vA | apply vN | apply vD)); exact HO0_2.out) (Kd.N_base ho17) hb); have n2_ := am (Kd.V_elder' (by (with_reducible repeat (first | apply vA | apply vN | apply vD)); exact HO0_3.out) (Kd.N_base ho17) hb); have n3_ := am (Kd.N_lower ho17 (below_size (by repeat (first | (with_reducible first | exact HB.out | apply below_alloc | apply pw_below_drewN | apply below_drew1 | refine below_set ?_ GE567.out) | exact HB.out)))); have n4_ := am (blk_below (g := gb567) (o := .cells #[.bool false, .slice A0_1 l0_1.length c0_1, .slice A0_2 l0_2.length c0_2, .slice A0_3 l0_3.length c0_3] 27 (0, 0)) (by (with_reducible repeat (first | refine blk_drewN ?_ _ | refine blk_drew ?_ | refine blk_alloc ?_ _)); exact BK567.out) hb); have n5_ := am (below_step (by repeat (first | (with_reducible first | exact HB.out | apply below_alloc | apply pw_below_drewN | apply below_drew1 | refine below_set ?_ GE567.out) | exact HB.out)) hb); clear HO0_1; clear HO0_2; clear HO0_3; clear BK567; clear HB; have HO0_1 := n0_; have HO0_2 := n1_; have HO0_3 := n2_; have HO571 := n3_; have BK567 := n4_; have HB := n5_; clear n0_ n1_ n2_ n3_ n4_ n5_; clear hb ho17; obtain ⟨Ao18, co18, eo18⟩ := Kd.N_slice HO571.out; subst eo18) | ((with_reducible refine gate_callee (f := 32) rfl ?_); refine goesL_ (some 15) rfl rfl Try.func32 (by kernel_rfl) rfl #[.slice Ao18 y569.length co18] rfl (by (try simp only [List.map_toArray, List.map_cons, List.map_nil]); first | done | rfl | (simp only [List.length_drop, List.length_take]; rfl)) ?_; (with_reducible refine (sennitref07_Few.calls k _ _ y569 true _ ?side1 ?side2 A7.out).mono ?_); (case side1 => repeat (first | exact (Kd.N_reads' HO571.out).2.2 | (with_reducible refine Kd.C_alloc ?_ _) | (with_reducible refine Kd.C_drewN ?_ _) | (with_reducible refine Kd.C_drew ?_))); (case side2 => exact (Kd.N_reads' HO571.out).2.1); rintro e w' ⟨rfl, ⟨nd, rfl⟩⟩; refine ⟨_, rfl, ?_⟩; have hcz19_0 : w16.cell? ⟨gb567, 0, none⟩ = some (.bool false) := (blk_cell BK567.out 0).trans rfl; have hcz19_1 : w16.cell? ⟨gb567, 1, none⟩ = some (.slice A0_1 l0_1.length c0_1) := (blk_cell BK567.out 1).trans rfl; have hcz19_2 : w16.cell? ⟨gb567, 2, none⟩ = some (.slice A0_2 l0_2.length c0_2) := (blk_cell BK567.out 2).trans rfl; have hcz19_3 : w16.cell? ⟨gb567, 3, none⟩ = some (.slice A0_3 l0_3.length c0_3) := (blk_cell BK567.out 3).trans rfl; have hfz19_0 := blk_frozen BK567.out 0; have hfz19_1 := blk_frozen BK567.out 1; have hfz19_2 := blk_frozen BK567.out 2; have hfz19_3 := blk_frozen BK567.out 3))
    go_meet
    case rel => exact ⟨_, (true), (by first | rfl | (simp; done) | (simp [*]; done)), H', ⟨by first | omega | exact Nat.le_refl _⟩, ⟨by (with_reducible repeat (first | apply vA | apply vN | apply vD)); exact Kd.V_mono HO0_1.out (fun _ hk => ⟨hk.1.1, hk.1.2⟩)⟩, ⟨by (with_reducible repeat (first | apply vA | apply vN | apply vD)); exact Kd.V_mono HO0_2.out (fun _ hk => ⟨hk.1.1, hk.1.2⟩)⟩, ⟨by (with_reducible repeat (first | apply vA | apply vN | apply vD)); exact Kd.V_mono HO0_3.out (fun _ hk => ⟨hk.1.1, hk.1.2⟩)⟩, ⟨by (with_reducible repeat (first | refine blk_drewN ?_ _ | refine blk_drew ?_ | refine blk_alloc ?_ _)); exact BK567.out⟩, ⟨by repeat (first | (with_reducible first | exact HB.out | apply below_alloc | apply pw_below_drewN | apply below_drew1 | refine below_set ?_ GE567.out) | exact HB.out)⟩⟩
  ·replace c8 := Bool.eq_false_iff.mpr c8
   subst c8
   have H1 : (sennitlaw10_ZealTurn.j0 k a1 t568 true a0_0 l0_1 l0_2 l0_3) = some r := by rw [if_neg (show ¬ (false = true) by decide)] at H; exact H
   clear H
   have H := H1
   clear H1
   have H' := am H
   clear H
   have hcz20_0 : w6.cell? ⟨gb567, 0, none⟩ = some (.bool a0_0) := (blk_cell BK567.out 0).trans rfl
   have hcz20_1 : w6.cell? ⟨gb567, 1, none⟩ = some (.slice A0_1 l0_1.length c0_1) := (blk_cell BK567.out 1).trans rfl
   have hcz20_2 : w6.cell? ⟨gb567, 2, none⟩ = some (.slice A0_2 l0_2.length c0_2) := (blk_cell BK567.out 2).trans rfl
   have hcz20_3 : w6.cell? ⟨gb567, 3, none⟩ = some (.slice A0_3 l0_3.length c0_3) := (blk_cell BK567.out 3).trans rfl
   have hfz20_0 := blk_frozen BK567.out 0
   have hfz20_1 := blk_frozen BK567.out 1
   have hfz20_2 := blk_frozen BK567.out 2
   have hfz20_3 := blk_frozen BK567.out 3
   go_wp2_with (first | ((with_reducible refine gate_dst (N := 14) rfl ?_); (try (refine gate_guard (by rfl) ?_; dsimp only)); refine Kd.N_lit k27 _ 27 ?hg (N' := 14) ?hd (xs := ([(⟨a0_0, l0_1, l0_2, l0_3⟩ : S27)] : List (S27))) (inner := [.bool a0_0, .slice A0_1 l0_1.length c0_1, .slice A0_2 l0_2.length c0_2, .slice A0_3 l0_3.length c0_3]) (ok := (fun k_ => ((P0_1_ k_ ∨ P0_2_ k_ ∨ P0_3_ k_) ∨ w.heap.size ≤ k_) ∧ k_ ≠ gb567)) (okp := (fun k_ => ((P0_1_ k_ ∨ P0_2_ k_ ∨ P0_3_ k_) ∨ w.heap.size ≤ k_) ∧ k_ ≠ gb567)) ?hr ?hp (fun _ hk => hk) ((show ∀ k_, w6.heap.size ≤ k_ → (fun k_ => ((P0_1_ k_ ∨ P0_2_ k_ ∨ P0_3_ k_) ∨ w.heap.size ≤ k_) ∧ k_ ≠ gb567) k_ from fun k_ hk => ⟨(.inr (Nat.le_trans (below_size (by repeat (first | (with_reducible first | exact HB.out | apply below_alloc | apply pw_below_drewN | apply below_drew1 | refine below_set ?_ GE567.out) | exact HB.out))) hk)), Kd.freshB (g := gb567) (o := .cells #[.bool a0_0, .slice A0_1 l0_1.length c0_1, .slice A0_2 l0_2.length c0_2, .slice A0_3 l0_3.length c0_3] 27 (0, 0)) (by (with_reducible repeat (first | refine blk_drewN ?_ _ | refine blk_drew ?_ | refine blk_alloc ?_ _)); exact BK567.out) k_ hk⟩) _ (Nat.le_refl _)) (Below.refl _ _) (Nat.le_refl _) (by simp) ?_; (case hd => rfl); (case hg => rfl); (case hr => first | (go_simp; done) | (go_simp; rfl)); (case hp => exact (Reps.c4 (show Kd.FK k27 _ _ (⟨a0_0, l0_1, l0_2, l0_3⟩ : S27) [.bool a0_0, .slice A0_1 l0_1.length c0_1, .slice A0_2 l0_2.length c0_2, .slice A0_3 l0_3.length c0_3] from (k27_mkF _ _ (⟨a0_0, l0_1, l0_2, l0_3⟩ : S27) (Kd.V_reads' (Kd.V_mono (ok' := (fun k_ => ((P0_1_ k_ ∨ P0_2_ k_ ∨ P0_3_ k_) ∨ w.heap.size ≤ k_) ∧ k_ ≠ gb567)) (HO0_1.out) (fun k_ hk => ⟨hk.1, hk.2⟩))).2.1 (Kd.V_F (Kd.V_mono (ok' := (fun k_ => ((P0_1_ k_ ∨ P0_2_ k_ ∨ P0_3_ k_) ∨ w.heap.size ≤ k_) ∧ k_ ≠ gb567)) (HO0_1.out) (fun k_ hk => ⟨hk.1, hk.2⟩))) (Kd.V_reads' (Kd.V_mono (ok' := (fun k_ => ((P0_1_ k_ ∨ P0_2_ k_ ∨ P0_3_ k_) ∨ w.heap.size ≤ k_) ∧ k_ ≠ gb567)) (HO0_2.out) (fun k_ hk => ⟨hk.1, hk.2⟩))).2.1 (Kd.V_F (Kd.V_mono (ok' := (fun k_ => ((P0_1_ k_ ∨ P0_2_ k_ ∨ P0_3_ k_) ∨ w.heap.size ≤ k_) ∧ k_ ≠ gb567)) (HO0_2.out) (fun k_ hk => ⟨hk.1, hk.2⟩))) (Kd.V_reads' (Kd.V_mono (ok' := (fun k_ => ((P0_1_ k_ ∨ P0_2_ k_ ∨ P0_3_ k_) ∨ w.heap.size ≤ k_) ∧ k_ ≠ gb567)) (HO0_3.out) (fun k_ hk => ⟨hk.1, hk.2⟩))).2.1 (Kd.V_F (Kd.V_mono (ok' := (fun k_ => ((P0_1_ k_ ∨ P0_2_ k_ ∨ P0_3_ k_) ∨ w.heap.size ≤ k_) ∧ k_ ≠ gb567)) (HO0_3.out) (fun k_ hk => ⟨hk.1, hk.2⟩))))) (Reps.none _ _))); intro v570 w21 ho22 hb hg_ hnew_; clear hg_ hnew_; rw [← Ny569.out] at ho22; have n0_ := am (Kd.V_elder' (by (with_reducible repeat (first | apply vA | apply vN | apply vD)); exact HO0_1.out) (Kd.N_base ho22) hb); have n1_ := am (Kd.V_elder' (by (with_reducible repeat (first | apply vA | apply vN | apply vD)); exact HO0_2.out) (Kd.N_base ho22) hb); have n2_ := am (Kd.V_elder' (by (with_reducible repeat (first | apply vA | apply vN | apply vD)); exact HO0_3.out) (Kd.N_base ho22) hb); have n3_ := am (Kd.N_lower ho22 (below_size (by repeat (first | (with_reducible first | exact HB.out | apply below_alloc | apply pw_below_drewN | apply below_drew1 | refine below_set ?_ GE567.out) | exact HB.out)))); have n4_ := am (blk_below (g := gb567) (o := .cells #[.bool a0_0, .slice A0_1 l0_1.length c0_1, .slice A0_2 l0_2.length c0_2, .slice A0_3 l0_3.length c0_3] 27 (0, 0)) (by (with_reducible repeat (first | refine blk_drewN ?_ _ | refine blk_drew ?_ | refine blk_alloc ?_ _)); exact BK567.out) hb); have n5_ := am (below_step (by repeat (first | (with_reducible first | exact HB.out | apply below_alloc | apply pw_below_drewN | apply below_drew1 | refine below_set ?_ GE567.out) | exact HB.out)) hb); clear HO0_1; clear HO0_2; clear HO0_3; clear BK567; clear HB; have HO0_1 := n0_; have HO0_2 := n1_; have HO0_3 := n2_; have HO571 := n3_; have BK567 := n4_; have HB := n5_; clear n0_ n1_ n2_ n3_ n4_ n5_; clear hb ho22; obtain ⟨Ao23, co23, eo23⟩ := Kd.N_slice HO571.out; subst eo23) | ((with_reducible refine gate_callee (f := 32) rfl ?_); refine goesL_ (some 15) rfl rfl Try.func32 (by kernel_rfl) rfl #[.slice Ao23 y569.length co23] rfl (by (try simp only [List.map_toArray, List.map_cons, List.map_nil]); first | done | rfl | (simp only [List.length_drop, List.length_take]; rfl)) ?_; (with_reducible refine (sennitref07_Few.calls k _ _ y569 false _ ?side1 ?side2 A7.out).mono ?_); (case side1 => repeat (first | exact (Kd.N_reads' HO571.out).2.2 | (with_reducible refine Kd.C_alloc ?_ _) | (with_reducible refine Kd.C_drewN ?_ _) | (with_reducible refine Kd.C_drew ?_))); (case side2 => exact (Kd.N_reads' HO571.out).2.1); rintro e w' ⟨rfl, ⟨nd, rfl⟩⟩; refine ⟨_, rfl, ?_⟩))
   go_meet
   case rel => exact ⟨_, (true), (by first | rfl | (simp; done) | (simp [*]; done)), H', ⟨by first | omega | exact Nat.le_refl _⟩, ⟨by (with_reducible repeat (first | apply vA | apply vN | apply vD)); exact Kd.V_mono HO0_1.out (fun _ hk => ⟨hk.1.1, hk.1.2⟩)⟩, ⟨by (with_reducible repeat (first | apply vA | apply vN | apply vD)); exact Kd.V_mono HO0_2.out (fun _ hk => ⟨hk.1.1, hk.1.2⟩)⟩, ⟨by (with_reducible repeat (first | apply vA | apply vN | apply vD)); exact Kd.V_mono HO0_3.out (fun _ hk => ⟨hk.1.1, hk.1.2⟩)⟩, ⟨by (with_reducible repeat (first | refine blk_drewN ?_ _ | refine blk_drew ?_ | refine blk_alloc ?_ _)); exact BK567.out⟩, ⟨by repeat (first | (with_reducible first | exact HB.out | apply below_alloc | apply pw_below_drewN | apply below_drew1 | refine below_set ?_ GE567.out) | exact HB.out)⟩⟩
 case rest =>
  clear HC4
  (try clear c1); (try clear p2); (try clear c3); (try clear c4); (try clear c8); (try clear c9); (try clear c13); (try clear hcz10_0); (try clear hcz10_1); (try clear hcz10_2); (try clear hcz10_3); (try clear hcz14_0); (try clear hcz14_1); (try clear hcz14_2); (try clear hcz14_3); (try clear hcz15_0); (try clear hcz15_1); (try clear hcz15_2); (try clear hcz15_3); (try clear hcz19_0); (try clear hcz19_1); (try clear hcz19_2); (try clear hcz19_3); (try clear hcz20_0); (try clear hcz20_1); (try clear hcz20_2); (try clear hcz20_3); (try clear hfz10_0); (try clear hfz10_1); (try clear hfz10_2); (try clear hfz10_3); (try clear hfz14_0); (try clear hfz14_1); (try clear hfz14_2); (try clear hfz14_3); (try clear hfz15_0); (try clear hfz15_1); (try clear hfz15_2); (try clear hfz15_3); (try clear hfz19_0); (try clear hfz19_1); (try clear hfz19_2); (try clear hfz19_3); (try clear hfz20_0); (try clear hfz20_1); (try clear hfz20_2); (try clear hfz20_3)
  obtain ⟨kq, x27_3, rfl, HA, HJ3, HO_568001, HO_568002, HO_568003, BK567, HB⟩ := hcut
  cases kq with
  | zero => exact absurd HA.out (by simp [sennitlaw10_ZealTurn.j0])
  | succ kj3 =>
   have H := HA.out
   clear HA
   simp only [sennitlaw10_ZealTurn.j0] at H
   by_cases c24 : x27_3 = true
   ·subst c24
    have H1 : (some t568) = some r := by rw [if_pos rfl] at H; exact H
    clear H
    have H := H1
    clear H1
    obtain rfl := Option.some.inj H
    go_wp2
    go_ret
    exact ⟨by first | rfl | (simp [errW_none, errW_some] <;> rfl) | (simp [*, errW_none, errW_some] <;> rfl), by repeat (first | (with_reducible first | exact HB.out | apply below_alloc | apply pw_below_drewN | apply below_drew1 | refine below_set ?_ GE567.out) | exact HB.out)⟩
   ·replace c24 := Bool.eq_false_iff.mpr c24
    subst c24
    have H1 : (if (l0_3.length : Int) = 0 then (none) else ((some (([] : List (List ByteArray)) : List (List ByteArray))).bind fun y574 => (if 0 ≤ (Int.tmod (wrap64 (a1)) (l0_3.length : Int)) then (if (Int.tmod (wrap64 (a1)) (l0_3.length : Int)) ≤ (l0_3.length : Int) then ((some (l0_3.drop ((Int.tmod (wrap64 (a1)) (l0_3.length : Int)) : Int).toNat : List (List ByteArray))).bind fun y577 => (if y574.length + y577.length < 5864062014805 then ((some (y574 ++ y577 : List (List ByteArray))).bind fun y582 => ((some (l0_3.take ((Int.tmod (wrap64 (a1)) (l0_3.length : Int)) : Int).toNat : List (List ByteArray))).bind fun y585 => (if y582.length + y585.length < 5864062014805 then ((zeal_Trim.f kj3 a0_0 l0_1 l0_2 l0_3).bind fun t593 => ((zeal_Trim.f kj3 a0_0 l0_1 l0_2 (y582 ++ y585)).bind fun t596 => (if (t593.length : Int) = (t596.length : Int) then (sennitlaw10_ZealTurn.l0 kj3 t568 (Int.tmod (wrap64 (a1)) (l0_3.length : Int)) t593 t596 0 a0_0 l0_1 l0_2 l0_3) else (none)))) else (none)))) else (none))) else (none)) else (none)))) = some r := by rw [if_neg (show ¬ (false = true) by decide)] at H; exact H
    clear H
    have H := H1
    clear H1
    by_cases c25 : (l0_3.length : Int) = 0
    ·rw [if_pos c25] at H
     exact absurd H (by simp)
    ·rw [if_neg c25] at H
     have c25b0 : ((l0_3.length : Int) == 0) = false := beq_eq_false_iff_ne.mpr c25
     have c25b1 : ((l0_3.length : Int) != 0) = true := bne_iff_ne.mpr c25
     have c25b2 : ¬ (l0_3 = []) := fun h_ => c25 (by rw [h_]; rfl)
     obtain ⟨y574, hy574⟩ : ∃ y_ : List (List ByteArray), y_ = (([] : List (List ByteArray))) := ⟨_, rfl⟩
     replace H : (if 0 ≤ (Int.tmod (wrap64 (a1)) (l0_3.length : Int)) then (if (Int.tmod (wrap64 (a1)) (l0_3.length : Int)) ≤ (l0_3.length : Int) then ((some (l0_3.drop ((Int.tmod (wrap64 (a1)) (l0_3.length : Int)) : Int).toNat : List (List ByteArray))).bind fun y577 => (if y574.length + y577.length < 5864062014805 then ((some (y574 ++ y577 : List (List ByteArray))).bind fun y582 => ((some (l0_3.take ((Int.tmod (wrap64 (a1)) (l0_3.length : Int)) : Int).toNat : List (List ByteArray))).bind fun y585 => (if y582.length + y585.length < 5864062014805 then ((zeal_Trim.f kj3 a0_0 l0_1 l0_2 l0_3).bind fun t593 => ((zeal_Trim.f kj3 a0_0 l0_1 l0_2 (y582 ++ y585)).bind fun t596 => (if (t593.length : Int) = (t596.length : Int) then (sennitlaw10_ZealTurn.l0 kj3 t568 (Int.tmod (wrap64 (a1)) (l0_3.length : Int)) t593 t596 0 a0_0 l0_1 l0_2 l0_3) else (none)))) else (none)))) else (none))) else (none)) else (none)) = some r := by first | (rw [hy574]; with_reducible exact H) | (have H2_ := (Option.bind_some _ _).symm.trans H; rw [hy574]; with_reducible exact H2_) | (have H2_ := (Option.bind_some _ _).symm.trans H; with_reducible exact H2_) | with_reducible exact H | (rw [hy574]; exact H) | exact H
     have Ny574 := am hy574
     clear hy574
     obtain ⟨ji26, hji26⟩ : ∃ j_ : Int, (Int.tmod (wrap64 (a1)) (l0_3.length : Int)) = j_ := ⟨_, rfl⟩
     replace H : (if 0 ≤ (ji26) then (if (ji26) ≤ (l0_3.length : Int) then ((some (l0_3.drop ((ji26) : Int).toNat : List (List ByteArray))).bind fun y577 => (if y574.length + y577.length < 5864062014805 then ((some (y574 ++ y577 : List (List ByteArray))).bind fun y582 => ((some (l0_3.take ((ji26) : Int).toNat : List (List ByteArray))).bind fun y585 => (if y582.length + y585.length < 5864062014805 then ((zeal_Trim.f kj3 a0_0 l0_1 l0_2 l0_3).bind fun t593 => ((zeal_Trim.f kj3 a0_0 l0_1 l0_2 (y582 ++ y585)).bind fun t596 => (if (t593.length : Int) = (t596.length : Int) then (sennitlaw10_ZealTurn.l0 kj3 t568 ji26 t593 t596 0 a0_0 l0_1 l0_2 l0_3) else (none)))) else (none)))) else (none))) else (none)) else (none)) = some r := by first | (rw [hji26] at H; exact H) | (simp only [hji26] at H ⊢; exact H)
     by_cases c27 : 0 ≤ (ji26)
     ·rw [if_pos c27] at H
      have c27b0 := eq_true c27
      have c27b1 : decide (0 ≤ (ji26)) = true := decide_eq_true c27
      clear c27
      by_cases c28 : (ji26) ≤ (l0_3.length : Int)
      ·rw [if_pos c28] at H
       have c28b0 := eq_true c28
       have c28b1 : decide ((ji26) ≤ (l0_3.length : Int)) = true := decide_eq_true c28
       clear c28
       obtain ⟨y577, hy577⟩ : ∃ y_ : List (List ByteArray), y_ = (l0_3.drop ((ji26) : Int).toNat) := ⟨_, rfl⟩
       replace H : (if y574.length + y577.length < 5864062014805 then ((some (y574 ++ y577 : List (List ByteArray))).bind fun y582 => ((some (l0_3.take ((ji26) : Int).toNat : List (List ByteArray))).bind fun y585 => (if y582.length + y585.length < 5864062014805 then ((zeal_Trim.f kj3 a0_0 l0_1 l0_2 l0_3).bind fun t593 => ((zeal_Trim.f kj3 a0_0 l0_1 l0_2 (y582 ++ y585)).bind fun t596 => (if (t593.length : Int) = (t596.length : Int) then (sennitlaw10_ZealTurn.l0 kj3 t568 ji26 t593 t596 0 a0_0 l0_1 l0_2 l0_3) else (none)))) else (none)))) else (none)) = some r := by first | (rw [hy577]; with_reducible exact H) | (have H2_ := (Option.bind_some _ _).symm.trans H; rw [hy577]; with_reducible exact H2_) | (have H2_ := (Option.bind_some _ _).symm.trans H; with_reducible exact H2_) | with_reducible exact H | (rw [hy577]; exact H) | exact H
       have Ny577 := am hy577
       clear hy577
       by_cases c29 : y574.length + y577.length < 5864062014805
       ·rw [if_pos c29] at H
        have LMc29 := am c29
        clear c29
        obtain ⟨y582, hy582⟩ : ∃ y_ : List (List ByteArray), y_ = (y574 ++ y577) := ⟨_, rfl⟩
        replace H : ((some (l0_3.take ((ji26) : Int).toNat : List (List ByteArray))).bind fun y585 => (if y582.length + y585.length < 5864062014805 then ((zeal_Trim.f kj3 a0_0 l0_1 l0_2 l0_3).bind fun t593 => ((zeal_Trim.f kj3 a0_0 l0_1 l0_2 (y582 ++ y585)).bind fun t596 => (if (t593.length : Int) = (t596.length : Int) then (sennitlaw10_ZealTurn.l0 kj3 t568 ji26 t593 t596 0 a0_0 l0_1 l0_2 l0_3) else (none)))) else (none))) = some r := by first | (rw [hy582]; with_reducible exact H) | (have H2_ := (Option.bind_some _ _).symm.trans H; rw [hy582]; with_reducible exact H2_) | (have H2_ := (Option.bind_some _ _).symm.trans H; with_reducible exact H2_) | with_reducible exact H | (rw [hy582]; exact H) | exact H
        have Ny582 := am hy582
        clear hy582
        have c30b0 := eq_true (of_decide_eq_true (by first | (with_reducible assumption) | assumption) : 0 ≤ (ji26))
        have c31b0 := eq_true (of_decide_eq_true (by first | (with_reducible assumption) | assumption) : (ji26) ≤ (l0_3.length : Int))
        obtain ⟨y585, hy585⟩ : ∃ y_ : List (List ByteArray), y_ = (l0_3.take ((ji26) : Int).toNat) := ⟨_, rfl⟩
        replace H : (if y582.length + y585.length < 5864062014805 then ((zeal_Trim.f kj3 a0_0 l0_1 l0_2 l0_3).bind fun t593 => ((zeal_Trim.f kj3 a0_0 l0_1 l0_2 (y582 ++ y585)).bind fun t596 => (if (t593.length : Int) = (t596.length : Int) then (sennitlaw10_ZealTurn.l0 kj3 t568 ji26 t593 t596 0 a0_0 l0_1 l0_2 l0_3) else (none)))) else (none)) = some r := by first | (rw [hy585]; with_reducible exact H) | (have H2_ := (Option.bind_some _ _).symm.trans H; rw [hy585]; with_reducible exact H2_) | (have H2_ := (Option.bind_some _ _).symm.trans H; with_reducible exact H2_) | with_reducible exact H | (rw [hy585]; exact H) | exact H
        have Ny585 := am hy585
        clear hy585
        by_cases c32 : y582.length + y585.length < 5864062014805
        ·rw [if_pos c32] at H
         have LMc32 := am c32
         clear c32
         obtain ⟨y590, hy590⟩ : ∃ y_ : List (List ByteArray), y_ = (y582 ++ y585) := ⟨_, rfl⟩
         replace H : ((zeal_Trim.f kj3 a0_0 l0_1 l0_2 l0_3).bind fun t593 => ((zeal_Trim.f kj3 a0_0 l0_1 l0_2 y590).bind fun t596 => (if (t593.length : Int) = (t596.length : Int) then (sennitlaw10_ZealTurn.l0 kj3 t568 ji26 t593 t596 0 a0_0 l0_1 l0_2 l0_3) else (none)))) = some r := by first | (rw [hy590]; with_reducible exact H) | (have H2_ := (Option.bind_some _ _).symm.trans H; rw [hy590]; with_reducible exact H2_) | (have H2_ := (Option.bind_some _ _).symm.trans H; with_reducible exact H2_) | with_reducible exact H | (rw [hy590]; exact H) | exact H
         have Ny590 := am hy590
         clear hy590
         replace H := Option.bind_eq_some_iff.mp H
         obtain ⟨t593, A330, H⟩ := H
         replace H : ((zeal_Trim.f kj3 a0_0 l0_1 l0_2 y590).bind fun t596 => (if (t593.length : Int) = (t596.length : Int) then (sennitlaw10_ZealTurn.l0 kj3 t568 ji26 t593 t596 0 a0_0 l0_1 l0_2 l0_3) else (none))) = some r := H
         have A33 := am A330
         clear A330
         replace H := Option.bind_eq_some_iff.mp H
         obtain ⟨t596, A340, H⟩ := H
         replace H : (if (t593.length : Int) = (t596.length : Int) then (sennitlaw10_ZealTurn.l0 kj3 t568 ji26 t593 t596 0 a0_0 l0_1 l0_2 l0_3) else (none)) = some r := H
         have A34 := am A340
         clear A340
         by_cases c35 : (t593.length : Int) = (t596.length : Int)
         ·rw [if_pos c35] at H
          have c35b0 : ((t593.length : Int) == (t596.length : Int)) = true := beq_iff_eq.mpr c35
          have c35b1 : ((t593.length : Int) != (t596.length : Int)) = false := bne_eq_false_iff_eq.mpr c35
          have c35b2 : (t593.length == t596.length) = true := by first | simpa using c35 | (simp at c35 ⊢; omega)
          clear c35
          have H' := am H
          clear H
          have hcz36_0 : wc.cell? ⟨gb567, 0, none⟩ = some (.bool a0_0) := (blk_cell BK567.out 0).trans rfl
          have hcz36_1 : wc.cell? ⟨gb567, 1, none⟩ = some (.slice A0_1 l0_1.length c0_1) := (blk_cell BK567.out 1).trans rfl
          have hcz36_2 : wc.cell? ⟨gb567, 2, none⟩ = some (.slice A0_2 l0_2.length c0_2) := (blk_cell BK567.out 2).trans rfl
          have hcz36_3 : wc.cell? ⟨gb567, 3, none⟩ = some (.slice A0_3 l0_3.length c0_3) := (blk_cell BK567.out 3).trans rfl
          have hfz36_0 := blk_frozen BK567.out 0
          have hfz36_1 := blk_frozen BK567.out 1
          have hfz36_2 := blk_frozen BK567.out 2
          have hfz36_3 := blk_frozen BK567.out 3
          try go_wp2_with (first | ((with_reducible refine gate_dst (N := 7) rfl ?_); (try (refine gate_guard (by rfl) ?_; dsimp only)); refine box_event ?hg (N := 7) ?hd (cs := #[.bool false, .slice none 0 0, .slice none 0 0, .slice none 0 0]) (t := 27) ?hr ?_; (case hd => rfl); (case hg => rfl); (case hr => first | (go_simp; done) | (go_simp; rfl)); intro gb573 hg w37 hbox hb; have n0_ := am (Kd.V_below (Kd.V_elderB (by (with_reducible repeat (first | apply vA | apply vN | apply vD)); exact HO_568001.out) gb573 (Nat.le_of_eq hg.symm)) hb); have n1_ := am (Kd.V_below (Kd.V_elderB (by (with_reducible repeat (first | apply vA | apply vN | apply vD)); exact HO_568002.out) gb573 (Nat.le_of_eq hg.symm)) hb); have n2_ := am (Kd.V_below (Kd.V_elderB (by (with_reducible repeat (first | apply vA | apply vN | apply vD)); exact HO_568003.out) gb573 (Nat.le_of_eq hg.symm)) hb); have n3_ := am (blk_below (g := gb567) (o := .cells #[.bool a0_0, .slice A0_1 l0_1.length c0_1, .slice A0_2 l0_2.length c0_2, .slice A0_3 l0_3.length c0_3] 27 (0, 0)) (by (with_reducible repeat (first | refine blk_drewN ?_ _ | refine blk_drew ?_ | refine blk_alloc ?_ _)); exact BK567.out) hb); have n4_ := am (below_step (by repeat (first | (with_reducible first | exact HB.out | apply below_alloc | apply pw_below_drewN | apply below_drew1 | refine below_set ?_ GE567.out) | exact HB.out)) hb); have n5_ := am (hbox); have n6_ := am ((by rw [hg]; exact (below_size (by repeat (first | (with_reducible first | exact HB.out | apply below_alloc | apply pw_below_drewN | apply below_drew1 | refine below_set ?_ GE567.out) | exact HB.out))) : w.heap.size ≤ gb573)); have n7_ := am ((by rw [hg]; exact (below_size (by repeat (first | (with_reducible first | exact HB.out | apply below_alloc | apply pw_below_drewN | apply below_drew1 | refine below_set ?_ GE567.out) | exact HB.out))) : w.heap.size ≤ gb573)); have n8_ := am ((by rw [hg]; exact Nat.ne_of_lt (blk_lt (g := gb567) (o := .cells #[.bool a0_0, .slice A0_1 l0_1.length c0_1, .slice A0_2 l0_2.length c0_2, .slice A0_3 l0_3.length c0_3] 27 (0, 0)) (by (with_reducible repeat (first | refine blk_drewN ?_ _ | refine blk_drew ?_ | refine blk_alloc ?_ _)); exact BK567.out)) : gb567 ≠ gb573)); have n9_ := am ((by rw [hg]; exact Nat.ne_of_gt (blk_lt (g := gb567) (o := .cells #[.bool a0_0, .slice A0_1 l0_1.length c0_1, .slice A0_2 l0_2.length c0_2, .slice A0_3 l0_3.length c0_3] 27 (0, 0)) (by (with_reducible repeat (first | refine blk_drewN ?_ _ | refine blk_drew ?_ | refine blk_alloc ?_ _)); exact BK567.out)) : gb573 ≠ gb567)); clear HO_568001; clear HO_568002; clear HO_568003; clear BK567; clear HB; have HO_568001 := n0_; have HO_568002 := n1_; have HO_568003 := n2_; have BK567 := n3_; have HB := n4_; have BK573 := n5_; have GW573 := n6_; have GE573 := n7_; have NB567_573 := n8_; have NB573_567 := n9_; clear n0_ n1_ n2_ n3_ n4_ n5_ n6_ n7_ n8_ n9_; clear hb hbox hg; have hnb38 := NB573_567.out; have hnc38 := NB567_573.out; have hcz39_0 : w37.cell? ⟨gb573, 0, none⟩ = some (.bool false) := (blk_cell BK573.out 0).trans rfl; have hcz39_1 : w37.cell? ⟨gb573, 1, none⟩ = some (.slice none 0 0) := (blk_cell BK573.out 1).trans rfl; have hcz39_2 : w37.cell? ⟨gb573, 2, none⟩ = some (.slice none 0 0) := (blk_cell BK573.out 2).trans rfl; have hcz39_3 : w37.cell? ⟨gb573, 3, none⟩ = some (.slice none 0 0) := (blk_cell BK573.out 3).trans rfl; have hfz39_0 := blk_frozen BK573.out 0; have hfz39_1 := blk_frozen BK573.out 1; have hfz39_2 := blk_frozen BK573.out 2; have hfz39_3 := blk_frozen BK573.out 3))
          have n0_ : Aside0 (Kd.V Kd.string 9 ((((w37.setCell ⟨gb573, 0, none⟩ (.bool a0_0)).setCell ⟨gb573, 1, none⟩ (.slice A0_1 l0_1.length c0_1)).setCell ⟨gb573, 2, none⟩ (.slice A0_2 l0_2.length c0_2)).setCell ⟨gb573, 3, none⟩ (.slice A0_3 l0_3.length c0_3)) w.heap.size (fun k_ => ((P0_1_ k_ ∨ P0_2_ k_ ∨ P0_3_ k_) ∨ w.heap.size ≤ k_) ∧ k_ ≠ gb567 ∧ k_ ≠ gb573) (.slice A0_1 l0_1.length c0_1) l0_1) := ⟨by (with_reducible repeat (first | apply vA | apply vN | apply vD)); exact Kd.V_mono (Kd.V_far (p := ⟨gb573, 3, none⟩) (Kd.V_far (p := ⟨gb573, 2, none⟩) (Kd.V_far (p := ⟨gb573, 1, none⟩) (Kd.V_far (p := ⟨gb573, 0, none⟩) (Kd.V_mono HO_568001.out (fun k_ hk => (⟨hk, hk.2⟩ : _ ∧ k_ ≠ gb573))) (fun _ hk => hk.2) (.bool a0_0)) (fun _ hk => hk.2) (.slice A0_1 l0_1.length c0_1)) (fun _ hk => hk.2) (.slice A0_2 l0_2.length c0_2)) (fun _ hk => hk.2) (.slice A0_3 l0_3.length c0_3)) (fun _ hk => ⟨hk.1.1.1, ⟨hk.1.1.2, hk.1.2⟩⟩)⟩
          have n1_ : Aside0 (Kd.V Kd.string 9 ((((w37.setCell ⟨gb573, 0, none⟩ (.bool a0_0)).setCell ⟨gb573, 1, none⟩ (.slice A0_1 l0_1.length c0_1)).setCell ⟨gb573, 2, none⟩ (.slice A0_2 l0_2.length c0_2)).setCell ⟨gb573, 3, none⟩ (.slice A0_3 l0_3.length c0_3)) w.heap.size (fun k_ => ((P0_1_ k_ ∨ P0_2_ k_ ∨ P0_3_ k_) ∨ w.heap.size ≤ k_) ∧ k_ ≠ gb567 ∧ k_ ≠ gb573) (.slice A0_2 l0_2.length c0_2) l0_2) := ⟨by (with_reducible repeat (first | apply vA | apply vN | apply vD)); exact Kd.V_mono (Kd.V_far (p := ⟨gb573, 3, none⟩) (Kd.V_far (p := ⟨gb573, 2, none⟩) (Kd.V_far (p := ⟨gb573, 1, none⟩) (Kd.V_far (p := ⟨gb573, 0, none⟩) (Kd.V_mono HO_568002.out (fun k_ hk => (⟨hk, hk.2⟩ : _ ∧ k_ ≠ gb573))) (fun _ hk => hk.2) (.bool a0_0)) (fun _ hk => hk.2) (.slice A0_1 l0_1.length c0_1)) (fun _ hk => hk.2) (.slice A0_2 l0_2.length c0_2)) (fun _ hk => hk.2) (.slice A0_3 l0_3.length c0_3)) (fun _ hk => ⟨hk.1.1.1, ⟨hk.1.1.2, hk.1.2⟩⟩)⟩
          have n2_ : Aside0 (Kd.V (Kd.slice 9 Kd.string) 22 ((((w37.setCell ⟨gb573, 0, none⟩ (.bool a0_0)).setCell ⟨gb573, 1, none⟩ (.slice A0_1 l0_1.length c0_1)).setCell ⟨gb573, 2, none⟩ (.slice A0_2 l0_2.length c0_2)).setCell ⟨gb573, 3, none⟩ (.slice A0_3 l0_3.length c0_3)) w.heap.size (fun k_ => ((P0_1_ k_ ∨ P0_2_ k_ ∨ P0_3_ k_) ∨ w.heap.size ≤ k_) ∧ k_ ≠ gb567 ∧ k_ ≠ gb573) (.slice A0_3 l0_3.length c0_3) l0_3) := ⟨by (with_reducible repeat (first | apply vA | apply vN | apply vD)); exact Kd.V_mono (Kd.V_far (p := ⟨gb573, 3, none⟩) (Kd.V_far (p := ⟨gb573, 2, none⟩) (Kd.V_far (p := ⟨gb573, 1, none⟩) (Kd.V_far (p := ⟨gb573, 0, none⟩) (Kd.V_mono HO_568003.out (fun k_ hk => (⟨hk, hk.2⟩ : _ ∧ k_ ≠ gb573))) (fun _ hk => hk.2) (.bool a0_0)) (fun _ hk => hk.2) (.slice A0_1 l0_1.length c0_1)) (fun _ hk => hk.2) (.slice A0_2 l0_2.length c0_2)) (fun _ hk => hk.2) (.slice A0_3 l0_3.length c0_3)) (fun _ hk => ⟨hk.1.1.1, ⟨hk.1.1.2, hk.1.2⟩⟩)⟩
          have n3_ : Aside0 (((((w37.setCell ⟨gb573, 0, none⟩ (.bool a0_0)).setCell ⟨gb573, 1, none⟩ (.slice A0_1 l0_1.length c0_1)).setCell ⟨gb573, 2, none⟩ (.slice A0_2 l0_2.length c0_2)).setCell ⟨gb573, 3, none⟩ (.slice A0_3 l0_3.length c0_3)).heap[gb567]? = some (.cells #[.bool a0_0, .slice A0_1 l0_1.length c0_1, .slice A0_2 l0_2.length c0_2, .slice A0_3 l0_3.length c0_3] 27 (0, 0))) := ⟨by (with_reducible repeat (first | refine blk_drewN ?_ _ | refine blk_drew ?_ | refine blk_alloc ?_ _)); refine blk_far ?_ NB567_573.out _; (with_reducible repeat (first | refine blk_drewN ?_ _ | refine blk_drew ?_ | refine blk_alloc ?_ _)); refine blk_far ?_ NB567_573.out _; (with_reducible repeat (first | refine blk_drewN ?_ _ | refine blk_drew ?_ | refine blk_alloc ?_ _)); refine blk_far ?_ NB567_573.out _; (with_reducible repeat (first | refine blk_drewN ?_ _ | refine blk_drew ?_ | refine blk_alloc ?_ _)); refine blk_far ?_ NB567_573.out _; (with_reducible repeat (first | refine blk_drewN ?_ _ | refine blk_drew ?_ | refine blk_alloc ?_ _)); exact BK567.out⟩
          have n4_ : Aside0 (((((w37.setCell ⟨gb573, 0, none⟩ (.bool a0_0)).setCell ⟨gb573, 1, none⟩ (.slice A0_1 l0_1.length c0_1)).setCell ⟨gb573, 2, none⟩ (.slice A0_2 l0_2.length c0_2)).setCell ⟨gb573, 3, none⟩ (.slice A0_3 l0_3.length c0_3)).heap[gb573]? = some (.cells #[.bool a0_0, .slice A0_1 l0_1.length c0_1, .slice A0_2 l0_2.length c0_2, .slice A0_3 l0_3.length c0_3] 27 (0, 0))) := ⟨by (with_reducible repeat (first | refine blk_drewN ?_ _ | refine blk_drew ?_ | refine blk_alloc ?_ _)); refine blk_put (cs := #[.bool a0_0, .slice A0_1 l0_1.length c0_1, .slice A0_2 l0_2.length c0_2, .slice none 0 0]) ?_ 3 _ rfl; (with_reducible repeat (first | refine blk_drewN ?_ _ | refine blk_drew ?_ | refine blk_alloc ?_ _)); refine blk_put (cs := #[.bool a0_0, .slice A0_1 l0_1.length c0_1, .slice none 0 0, .slice none 0 0]) ?_ 2 _ rfl; (with_reducible repeat (first | refine blk_drewN ?_ _ | refine blk_drew ?_ | refine blk_alloc ?_ _)); refine blk_put (cs := #[.bool a0_0, .slice none 0 0, .slice none 0 0, .slice none 0 0]) ?_ 1 _ rfl; (with_reducible repeat (first | refine blk_drewN ?_ _ | refine blk_drew ?_ | refine blk_alloc ?_ _)); refine blk_put (cs := #[.bool false, .slice none 0 0, .slice none 0 0, .slice none 0 0]) ?_ 0 _ rfl; (with_reducible repeat (first | refine blk_drewN ?_ _ | refine blk_drew ?_ | refine blk_alloc ?_ _)); exact BK573.out⟩
          have n5_ : Aside0 (Below w.heap.size w ((((w37.setCell ⟨gb573, 0, none⟩ (.bool a0_0)).setCell ⟨gb573, 1, none⟩ (.slice A0_1 l0_1.length c0_1)).setCell ⟨gb573, 2, none⟩ (.slice A0_2 l0_2.length c0_2)).setCell ⟨gb573, 3, none⟩ (.slice A0_3 l0_3.length c0_3))) := ⟨by repeat (first | (with_reducible first | exact HB.out | apply below_alloc | apply pw_below_drewN | apply below_drew1 | refine below_set ?_ GE567.out | refine below_set ?_ GE573.out) | exact HB.out)⟩
          (try clear HO_568001)
          (try clear HO_568002)
          (try clear HO_568003)
          (try clear BK567)
          (try clear BK573)
          (try clear HB)
          generalize ((((w37.setCell ⟨gb573, 0, none⟩ (.bool a0_0)).setCell ⟨gb573, 1, none⟩ (.slice A0_1 l0_1.length c0_1)).setCell ⟨gb573, 2, none⟩ (.slice A0_2 l0_2.length c0_2)).setCell ⟨gb573, 3, none⟩ (.slice A0_3 l0_3.length c0_3)) = w40 at n0_ n1_ n2_ n3_ n4_ n5_ ⊢
          have HO_568001 := n0_
          have HO_568002 := n1_
          have HO_568003 := n2_
          have BK567 := n3_
          have BK573 := n4_
          have HB := n5_
          clear n0_ n1_ n2_ n3_ n4_ n5_
          have n0_ := am (Kd.V_drew HO_568001.out)
          have n1_ := am (Kd.V_drew HO_568002.out)
          have n2_ := am (Kd.V_drew HO_568003.out)
          have n3_ := am (blk_drew BK567.out)
          have n4_ := am (blk_drew BK573.out)
          have n5_ := am (below_drew1 HB.out)
          clear HO_568001
          clear HO_568002
          clear HO_568003
          clear BK567
          clear BK573
          clear HB
          have HO_568001 := n0_
          have HO_568002 := n1_
          have HO_568003 := n2_
          have BK567 := n3_
          have BK573 := n4_
          have HB := n5_
          clear n0_ n1_ n2_ n3_ n4_ n5_
          have q42 : ((ji26) : Int) ≤ ((l0_3.length : Int) : Int) := of_decide_eq_true (by first | (with_reducible assumption) | assumption)
          obtain ⟨i042, hi042, _, hsz42, _⟩ := info_parts info22
          have hroom42 : l0_3.length ≤ c0_3 := (Kd.V_reads' HO_568003.out).2.1
          have hC42 : Kd.F (Kd.slice 9 Kd.string) _ _ A0_3 l0_3.length l0_3 := (Kd.V_at (base := w.heap.size) HO_568003.out).2.2
          have q042 : (0 : Int) ≤ ((ji26) : Int) := of_decide_eq_true (by first | (with_reducible assumption) | assumption)
          have hcut42 := cut_from (P := Try.prog) 23 22 .i64 Try.underlying23 hi042 1 hsz42 A0_3 l0_3.length c0_3 (ji26) q042 q42
          have hr42 := Kd.F_cut (m := ((ji26) : Int).toNat) (c := c0_3) hC42 (by omega) hroom42
          obtain ⟨A42, hA42⟩ : ∃ A1x_, A1x_ = (if c0_3 = ((ji26) : Int).toNat then A0_3 else (A0_3 : Option Addr).map (·.add (((ji26) : Int).toNat * 1))) := ⟨_, rfl⟩
          obtain ⟨c42, hc42⟩ : ∃ c1x_, c1x_ = c0_3 - ((ji26) : Int).toNat := ⟨_, rfl⟩
          have hy42 : y577.length = l0_3.length - ((ji26) : Int).toNat := (by rw [Ny577.out, List.length_drop] <;> omega)
          rw [show (l0_3).drop ((ji26) : Int).toNat = y577 from Ny577.out.symm] at hr42
          replace hr42 : Kd.F (Kd.slice 9 Kd.string) _ _ A42 y577.length y577 := (by rw [hA42]; exact hr42)
          rw [← hy42, ← hA42, ← hc42] at hcut42
          have HO581 := am (show Kd.V (Kd.slice 9 Kd.string) 22 _ w.heap.size _ (.slice A42 y577.length c42) y577 from Kd.V_mk (by rw [hy42, hc42]; exact Nat.sub_le_sub_right hroom42 _) hr42)
          have HC581 := am (show y577.length ≤ c42 from by rw [hy42, hc42]; exact Nat.sub_le_sub_right hroom42 _)
          clear hr42 hC42 hroom42 hi042 hsz42 hc42
          have KY42 := am hy42
          have KA42 := am hA42
          clear hy42 hA42
          replace q42 := eq_true q42
          have q43 : ((ji26) : Int) ≤ ((l0_3.length : Int) : Int) := of_decide_eq_true (by first | (with_reducible assumption) | assumption)
          obtain ⟨i043, hi043, _, hsz43, _⟩ := info_parts info22
          have hroom43 : l0_3.length ≤ c0_3 := (Kd.V_reads' HO_568003.out).2.1
          have hC43 : Kd.F (Kd.slice 9 Kd.string) _ _ A0_3 l0_3.length l0_3 := (Kd.V_at (base := w.heap.size) HO_568003.out).2.2
          have hcut43 := cut_to (P := Try.prog) 23 22 .i64 Try.underlying23 hi043 A0_3 l0_3.length c0_3 (ji26) (of_decide_eq_true (by first | (with_reducible assumption) | assumption)) q43 hroom43
          have hr43 := Kd.F_take (m := ((ji26) : Int).toNat) hC43 (by omega)
          have hy43 : y585.length = ((ji26) : Int).toNat := (by rw [Ny585.out, List.length_take]; omega)
          rw [← Ny585.out] at hr43
          rw [← hy43] at hcut43
          have HO589 := am (show Kd.V (Kd.slice 9 Kd.string) 22 _ w.heap.size _ (.slice A0_3 y585.length c0_3) y585 from Kd.V_mk (by omega) hr43)
          have HC589 := am (show y585.length ≤ c0_3 from by omega)
          clear hr43 hC43 hroom43 hi043 hsz43
          have KY43 := am hy43
          clear hy43
          replace q43 := eq_true q43
          refine start_ (n := 13) (S := fun w' => w'.cell? ⟨gb567, 0, none⟩ = some (.bool a0_0) ∧ w'.cell? ⟨gb567, 1, none⟩ = some (.slice A0_1 l0_1.length c0_1) ∧ w'.cell? ⟨gb567, 2, none⟩ = some (.slice A0_2 l0_2.length c0_2) ∧ w'.cell? ⟨gb567, 3, none⟩ = some (.slice A0_3 l0_3.length c0_3)) (ds := []) #[false, false, false, false, false, false, false, false, false, false, false, false, false] (by kernel_rfl) rfl rfl ⟨(blk_cell BK567.out 0).trans rfl, (blk_cell BK567.out 1).trans rfl, (blk_cell BK567.out 2).trans rfl, (blk_cell BK567.out 3).trans rfl⟩ (fun hHeld => ?_); refine with_tabW sennitlaw10_ZealTurn.tab6 sennitlaw10_ZealTurn.bits6 (fun HT_ HW_ => ?_)
          generalize w40.drew = w41 at HO_568001 HO_568002 HO_568003 BK567 BK573 HB HO581 HO589 hHeld ⊢
          refine pN HT_.out 1 37 ?_
          refine pN HT_.out 3 39 ?_
          refine pN HT_.out 6 42 ?_
          refine pN HT_.out 8 44 ?_
          refine take_ (i := 2) (N := some 38) (v := ?_) (a' := ?_) #[false, true, true, true, false, false, true, false, true, false, false, false, false] rfl rfl (take_ofW HT_.out HW_.out (by kernel_rfl)) (fun _ _ _ h => h) (Or.inl ⟨by rfl, ?_⟩) hHeld ?_ ?_
          rotate_left
          ·rintro w' ⟨s0, s1, s2, s3⟩
           go_simp
           with_reducible rfl
          rotate_left
          ·simp only [Act.put, List.setIfInBounds_toArray, List.set_cons_zero, List.set_cons_succ, i64_w, i32_w]
           rfl
          refine pN HT_.out 4 40 ?_
          refine take_ (i := 7) (N := some 43) (v := ?_) (a' := ?_) #[false, true, true, true, true, false, true, true, true, false, false, false, false] rfl rfl (take_ofW HT_.out HW_.out (by kernel_rfl)) (fun _ _ _ h => h) (Or.inl ⟨by rfl, ?_⟩) hHeld ?_ ?_
          rotate_left
          ·rintro w' ⟨s0, s1, s2, s3⟩
           go_simp
           with_reducible rfl
          rotate_left
          ·simp only [Act.put, List.setIfInBounds_toArray, List.set_cons_zero, List.set_cons_succ, i64_w, i32_w]
           rfl
          refine pN HT_.out 9 45 ?_
          refine one_ (i := 0) (N := some 36) #[true, true, true, true, true, false, true, true, true, true, false, false, false] rfl rfl (one_of HT_.out (by kernel_rfl)) (by decide) (fun K hK => ?_)
          refine Kd.N_lit_step (Kd.slice 9 Kd.string) _ 22 ?hg (N' := 36) ?hd (xs := ([] : List (List ByteArray))) (inner := []) (ok := (fun k_ => ((P0_1_ k_ ∨ P0_2_ k_ ∨ P0_3_ k_) ∨ w.heap.size ≤ k_) ∧ k_ ≠ gb567 ∧ k_ ≠ gb573)) (okp := (fun k_ => ((P0_1_ k_ ∨ P0_2_ k_ ∨ P0_3_ k_) ∨ w.heap.size ≤ k_) ∧ k_ ≠ gb567 ∧ k_ ≠ gb573)) ?hr ?hp (fun _ hk => hk) ((show ∀ k_, w41.heap.size ≤ k_ → (fun k_ => ((P0_1_ k_ ∨ P0_2_ k_ ∨ P0_3_ k_) ∨ w.heap.size ≤ k_) ∧ k_ ≠ gb567 ∧ k_ ≠ gb573) k_ from fun k_ hk => ⟨(.inr (Nat.le_trans (below_size (by repeat (first | (with_reducible first | exact HB.out | apply below_alloc | apply pw_below_drewN | apply below_drew1 | refine below_set ?_ GE567.out | refine below_set ?_ GE573.out) | exact HB.out))) hk)), Kd.freshB (g := gb567) (o := .cells #[.bool a0_0, .slice A0_1 l0_1.length c0_1, .slice A0_2 l0_2.length c0_2, .slice A0_3 l0_3.length c0_3] 27 (0, 0)) (by (with_reducible repeat (first | refine blk_drewN ?_ _ | refine blk_drew ?_ | refine blk_alloc ?_ _)); exact BK567.out) k_ hk, Kd.freshB (g := gb573) (o := .cells #[.bool a0_0, .slice A0_1 l0_1.length c0_1, .slice A0_2 l0_2.length c0_2, .slice A0_3 l0_3.length c0_3] 27 (0, 0)) (by (with_reducible repeat (first | refine blk_drewN ?_ _ | refine blk_drew ?_ | refine blk_alloc ?_ _)); exact BK573.out) k_ hk⟩) _ (Nat.le_refl _)) (Below.refl _ _) (Nat.le_refl _) (by simp) ?_; (case hd => rfl); (case hg => rfl); (case hr => first | (go_simp; done) | (go_simp; rfl)); (case hp => exact (Reps.none _ _))
          intro v575 w44 ho45 hb hg_ hnew_
          clear hg_ hnew_
          rw [← Ny574.out] at ho45
          have n0_ := am (Kd.V_elder' (by (with_reducible repeat (first | apply vA | apply vN | apply vD)); exact HO_568001.out) (Kd.N_base ho45) hb)
          have n1_ := am (Kd.V_elder' (by (with_reducible repeat (first | apply vA | apply vN | apply vD)); exact HO_568002.out) (Kd.N_base ho45) hb)
          have n2_ := am (Kd.V_elder' (by (with_reducible repeat (first | apply vA | apply vN | apply vD)); exact HO_568003.out) (Kd.N_base ho45) hb)
          have n3_ := am (Kd.V_elder' (by (with_reducible repeat (first | apply vA | apply vN | apply vD)); exact HO581.out) (Kd.N_base ho45) hb)
          have n4_ := am (Kd.V_elder' (by (with_reducible repeat (first | apply vA | apply vN | apply vD)); exact HO589.out) (Kd.N_base ho45) hb)
          have n5_ := am (Kd.N_lower ho45 (below_size (by repeat (first | (with_reducible first | exact HB.out | apply below_alloc | apply pw_below_drewN | apply below_drew1 | refine below_set ?_ GE567.out | refine below_set ?_ GE573.out) | exact HB.out))))
          have n6_ := am (blk_below (g := gb567) (o := .cells #[.bool a0_0, .slice A0_1 l0_1.length c0_1, .slice A0_2 l0_2.length c0_2, .slice A0_3 l0_3.length c0_3] 27 (0, 0)) (by (with_reducible repeat (first | refine blk_drewN ?_ _ | refine blk_drew ?_ | refine blk_alloc ?_ _)); exact BK567.out) hb)
          have n7_ := am (blk_below (g := gb573) (o := .cells #[.bool a0_0, .slice A0_1 l0_1.length c0_1, .slice A0_2 l0_2.length c0_2, .slice A0_3 l0_3.length c0_3] 27 (0, 0)) (by (with_reducible repeat (first | refine blk_drewN ?_ _ | refine blk_drew ?_ | refine blk_alloc ?_ _)); exact BK573.out) hb)
          have n8_ := am (below_step (by repeat (first | (with_reducible first | exact HB.out | apply below_alloc | apply pw_below_drewN | apply below_drew1 | refine below_set ?_ GE567.out | refine below_set ?_ GE573.out) | exact HB.out)) hb)
          clear HO_568001
          clear HO_568002
          clear HO_568003
          clear HO581
          clear HO589
          clear BK567
          clear BK573
          clear HB
          have HO_568001 := n0_
          have HO_568002 := n1_
          have HO_568003 := n2_
          have HO581 := n3_
          have HO589 := n4_
          have HO576 := n5_
          have BK567 := n6_
          have BK573 := n7_
          have HB := n8_
          clear n0_ n1_ n2_ n3_ n4_ n5_ n6_ n7_ n8_
          clear hb ho45
          refine hK.out _ _ ⟨(blk_cell BK567.out 0).trans rfl, (blk_cell BK567.out 1).trans rfl, (blk_cell BK567.out 2).trans rfl, (blk_cell BK567.out 3).trans rfl⟩ (fun hHeld => ?_)
          clear hK K
          refine norm_ (a' := ?_) ?_ ?_
          rotate_left
          ·show Act.put _ (some 36) _ = _
           simp only [Act.put, List.setIfInBounds_toArray, List.set_cons_zero, List.set_cons_succ, i64_w, i32_w]
           rfl
          refine one_ (i := 5) (N := some 41) #[true, true, true, true, true, true, true, true, true, true, false, false, false] rfl rfl (one_of HT_.out (by kernel_rfl)) (by decide) (fun K hK => ?_)
          refine Kd.N_append_rows_step (Kd.slice 9 Kd.string) (w0 := w) w.heap.size (by rfl) (.tmp 36) (.tmp 40) 23 22 (.slice none 0 0) 24 rfl Try.underlying23 info22 rfl (by decide) (by omega) v575 y574 y577 _ _ _ (fun k_ => ((P0_1_ k_ ∨ P0_2_ k_ ∨ P0_3_ k_) ∨ w.heap.size ≤ k_) ∧ k_ ≠ gb567 ∧ k_ ≠ gb573) (fun k_ => ((fun k_ => ((P0_1_ k_ ∨ P0_2_ k_ ∨ P0_3_ k_) ∨ w.heap.size ≤ k_) ∧ k_ ≠ gb567 ∧ k_ ≠ gb573)) k_ ∧ some k_ ≠ (v575 : Value).ownBlock) rfl rfl ?aO ?aR (fun _ hk => hk) ?aF ?aB ?aS ?aL ?_
          (case aR => exact (by skip; exact Kd.V_F (Kd.V_mono (ok' := (fun k_ => ((fun k_ => ((P0_1_ k_ ∨ P0_2_ k_ ∨ P0_3_ k_) ∨ w.heap.size ≤ k_) ∧ k_ ≠ gb567 ∧ k_ ≠ gb573)) k_ ∧ some k_ ≠ (v575 : Value).ownBlock)) (HO581.out) (fun k_ hk => ⟨⟨hk.1.1, ⟨hk.1.2.1, hk.1.2.2⟩⟩, hk.2⟩))))
          (case aB => exact (by repeat (first | (with_reducible first | exact HB.out | apply below_alloc | apply pw_below_drewN | apply below_drew1 | refine below_set ?_ GE567.out | refine below_set ?_ GE573.out) | exact HB.out)))
          (case aF => exact (fun k_ hk => ⟨(.inr (Nat.le_trans (below_size (by repeat (first | (with_reducible first | exact HB.out | apply below_alloc | apply pw_below_drewN | apply below_drew1 | refine below_set ?_ GE567.out | refine below_set ?_ GE573.out) | exact HB.out))) hk)), Kd.freshB (g := gb567) (o := .cells #[.bool a0_0, .slice A0_1 l0_1.length c0_1, .slice A0_2 l0_2.length c0_2, .slice A0_3 l0_3.length c0_3] 27 (0, 0)) (by (with_reducible repeat (first | refine blk_drewN ?_ _ | refine blk_drew ?_ | refine blk_alloc ?_ _)); exact BK567.out) k_ hk, Kd.freshB (g := gb573) (o := .cells #[.bool a0_0, .slice A0_1 l0_1.length c0_1, .slice A0_2 l0_2.length c0_2, .slice A0_3 l0_3.length c0_3] 27 (0, 0)) (by (with_reducible repeat (first | refine blk_drewN ?_ _ | refine blk_drew ?_ | refine blk_alloc ?_ _)); exact BK573.out) k_ hk⟩))
          (case aO => exact (by (with_reducible repeat (first | apply nA | apply nN | apply nD)); exact HO576.out))
          (case aS => exact (below_size (by repeat (first | (with_reducible first | exact HB.out | apply below_alloc | apply pw_below_drewN | apply below_drew1 | refine below_set ?_ GE567.out | refine below_set ?_ GE573.out) | exact HB.out))))
          (case aL => have := LMc29.out; omega)
          intro v583 w46 ho hb hg hat
          rw [← Ny582.out] at ho
          have n0_ := am (Kd.V_afterv (ok := (fun k_ => ((P0_1_ k_ ∨ P0_2_ k_ ∨ P0_3_ k_) ∨ w.heap.size ≤ k_) ∧ k_ ≠ gb567 ∧ k_ ≠ gb573)) (by (with_reducible repeat (first | apply vA | apply vN | apply vD)); exact HO_568001.out) hg hat)
          have n1_ := am (Kd.V_afterv (ok := (fun k_ => ((P0_1_ k_ ∨ P0_2_ k_ ∨ P0_3_ k_) ∨ w.heap.size ≤ k_) ∧ k_ ≠ gb567 ∧ k_ ≠ gb573)) (by (with_reducible repeat (first | apply vA | apply vN | apply vD)); exact HO_568002.out) hg hat)
          have n2_ := am (Kd.V_afterv (ok := (fun k_ => ((P0_1_ k_ ∨ P0_2_ k_ ∨ P0_3_ k_) ∨ w.heap.size ≤ k_) ∧ k_ ≠ gb567 ∧ k_ ≠ gb573)) (by (with_reducible repeat (first | apply vA | apply vN | apply vD)); exact HO_568003.out) hg hat)
          have n3_ := am (blk_grown (g := gb567) (o := .cells #[.bool a0_0, .slice A0_1 l0_1.length c0_1, .slice A0_2 l0_2.length c0_2, .slice A0_3 l0_3.length c0_3] 27 (0, 0)) (by (with_reducible repeat (first | refine blk_drewN ?_ _ | refine blk_drew ?_ | refine blk_alloc ?_ _)); exact BK567.out) hg (Kd.N_ne HO576.out BK567.out (by decide)))
          have n4_ := am (blk_grown (g := gb573) (o := .cells #[.bool a0_0, .slice A0_1 l0_1.length c0_1, .slice A0_2 l0_2.length c0_2, .slice A0_3 l0_3.length c0_3] 27 (0, 0)) (by (with_reducible repeat (first | refine blk_drewN ?_ _ | refine blk_drew ?_ | refine blk_alloc ?_ _)); exact BK573.out) hg (Kd.N_ne HO576.out BK573.out (by decide)))
          have n5_ := am (Kd.V_afterv (ok := (fun k_ => ((P0_1_ k_ ∨ P0_2_ k_ ∨ P0_3_ k_) ∨ w.heap.size ≤ k_) ∧ k_ ≠ gb567 ∧ k_ ≠ gb573)) (by (with_reducible repeat (first | apply vA | apply vN | apply vD)); exact HO581.out) hg hat)
          have n6_ := am (Kd.V_afterv (ok := (fun k_ => ((P0_1_ k_ ∨ P0_2_ k_ ∨ P0_3_ k_) ∨ w.heap.size ≤ k_) ∧ k_ ≠ gb567 ∧ k_ ≠ gb573)) (by (with_reducible repeat (first | apply vA | apply vN | apply vD)); exact HO589.out) hg hat)
          have n7_ := am (hb)
          have n8_ := am (ho)
          clear HO_568001
          clear HO_568002
          clear HO_568003
          clear BK567
          clear BK573
          clear HO581
          clear HO589
          clear HB
          clear HO576
          have HO_568001 := n0_
          have HO_568002 := n1_
          have HO_568003 := n2_
          have BK567 := n3_
          have BK573 := n4_
          have HO581 := n5_
          have HO589 := n6_
          have HB := n7_
          have HO584 := n8_
          clear n0_ n1_ n2_ n3_ n4_ n5_ n6_ n7_ n8_
          clear ho hb hg hat
          refine hK.out _ _ ⟨(blk_cell BK567.out 0).trans rfl, (blk_cell BK567.out 1).trans rfl, (blk_cell BK567.out 2).trans rfl, (blk_cell BK567.out 3).trans rfl⟩ (fun hHeld => ?_)
          clear hK K
          refine norm_ (a' := ?_) ?_ ?_
          rotate_left
          ·show Act.put _ (some 41) _ = _
           simp only [Act.put, List.setIfInBounds_toArray, List.set_cons_zero, List.set_cons_succ, i64_w, i32_w]
           rfl
          refine one_ (i := 10) (N := some 46) #[true, true, true, true, true, true, true, true, true, true, true, false, false] rfl rfl (one_of HT_.out (by kernel_rfl)) (by decide) (fun K hK => ?_)
          refine Kd.N_append_rows_step (Kd.slice 9 Kd.string) (w0 := w) w.heap.size (by rfl) (.tmp 41) (.tmp 45) 23 22 (.slice none 0 0) 24 rfl Try.underlying23 info22 rfl (by decide) (by omega) v583 y582 y585 _ _ _ (fun k_ => ((P0_1_ k_ ∨ P0_2_ k_ ∨ P0_3_ k_) ∨ w.heap.size ≤ k_) ∧ k_ ≠ gb567 ∧ k_ ≠ gb573) (fun k_ => ((fun k_ => ((P0_1_ k_ ∨ P0_2_ k_ ∨ P0_3_ k_) ∨ w.heap.size ≤ k_) ∧ k_ ≠ gb567 ∧ k_ ≠ gb573)) k_ ∧ some k_ ≠ (v583 : Value).ownBlock) rfl rfl ?aO ?aR (fun _ hk => hk) ?aF ?aB ?aS ?aL ?_
          (case aR => exact (by skip; exact Kd.V_F (Kd.V_mono (ok' := (fun k_ => ((fun k_ => ((P0_1_ k_ ∨ P0_2_ k_ ∨ P0_3_ k_) ∨ w.heap.size ≤ k_) ∧ k_ ≠ gb567 ∧ k_ ≠ gb573)) k_ ∧ some k_ ≠ (v583 : Value).ownBlock)) (HO589.out) (fun k_ hk => ⟨⟨hk.1.1, ⟨hk.1.2.1, hk.1.2.2⟩⟩, hk.2⟩))))
          (case aB => exact (by repeat (first | (with_reducible first | exact HB.out | apply below_alloc | apply pw_below_drewN | apply below_drew1 | refine below_set ?_ GE567.out | refine below_set ?_ GE573.out) | exact HB.out)))
          (case aF => exact (fun k_ hk => ⟨(.inr (Nat.le_trans (below_size (by repeat (first | (with_reducible first | exact HB.out | apply below_alloc | apply pw_below_drewN | apply below_drew1 | refine below_set ?_ GE567.out | refine below_set ?_ GE573.out) | exact HB.out))) hk)), Kd.freshB (g := gb567) (o := .cells #[.bool a0_0, .slice A0_1 l0_1.length c0_1, .slice A0_2 l0_2.length c0_2, .slice A0_3 l0_3.length c0_3] 27 (0, 0)) (by (with_reducible repeat (first | refine blk_drewN ?_ _ | refine blk_drew ?_ | refine blk_alloc ?_ _)); exact BK567.out) k_ hk, Kd.freshB (g := gb573) (o := .cells #[.bool a0_0, .slice A0_1 l0_1.length c0_1, .slice A0_2 l0_2.length c0_2, .slice A0_3 l0_3.length c0_3] 27 (0, 0)) (by (with_reducible repeat (first | refine blk_drewN ?_ _ | refine blk_drew ?_ | refine blk_alloc ?_ _)); exact BK573.out) k_ hk⟩))
          (case aO => exact (by (with_reducible repeat (first | apply nA | apply nN | apply nD)); exact HO584.out))
          (case aS => exact (below_size (by repeat (first | (with_reducible first | exact HB.out | apply below_alloc | apply pw_below_drewN | apply below_drew1 | refine below_set ?_ GE567.out | refine below_set ?_ GE573.out) | exact HB.out))))
          (case aL => have := LMc32.out; omega)
          intro v591 w47 ho hb hg hat
          rw [← Ny590.out] at ho
          have n0_ := am (Kd.V_afterv (ok := (fun k_ => ((P0_1_ k_ ∨ P0_2_ k_ ∨ P0_3_ k_) ∨ w.heap.size ≤ k_) ∧ k_ ≠ gb567 ∧ k_ ≠ gb573)) (by (with_reducible repeat (first | apply vA | apply vN | apply vD)); exact HO_568001.out) hg hat)
          have n1_ := am (Kd.V_afterv (ok := (fun k_ => ((P0_1_ k_ ∨ P0_2_ k_ ∨ P0_3_ k_) ∨ w.heap.size ≤ k_) ∧ k_ ≠ gb567 ∧ k_ ≠ gb573)) (by (with_reducible repeat (first | apply vA | apply vN | apply vD)); exact HO_568002.out) hg hat)
          have n2_ := am (Kd.V_afterv (ok := (fun k_ => ((P0_1_ k_ ∨ P0_2_ k_ ∨ P0_3_ k_) ∨ w.heap.size ≤ k_) ∧ k_ ≠ gb567 ∧ k_ ≠ gb573)) (by (with_reducible repeat (first | apply vA | apply vN | apply vD)); exact HO_568003.out) hg hat)
          have n3_ := am (blk_grown (g := gb567) (o := .cells #[.bool a0_0, .slice A0_1 l0_1.length c0_1, .slice A0_2 l0_2.length c0_2, .slice A0_3 l0_3.length c0_3] 27 (0, 0)) (by (with_reducible repeat (first | refine blk_drewN ?_ _ | refine blk_drew ?_ | refine blk_alloc ?_ _)); exact BK567.out) hg (Kd.N_ne HO584.out BK567.out (by decide)))
          have n4_ := am (blk_grown (g := gb573) (o := .cells #[.bool a0_0, .slice A0_1 l0_1.length c0_1, .slice A0_2 l0_2.length c0_2, .slice A0_3 l0_3.length c0_3] 27 (0, 0)) (by (with_reducible repeat (first | refine blk_drewN ?_ _ | refine blk_drew ?_ | refine blk_alloc ?_ _)); exact BK573.out) hg (Kd.N_ne HO584.out BK573.out (by decide)))
          have n5_ := am (Kd.V_afterv (ok := (fun k_ => ((P0_1_ k_ ∨ P0_2_ k_ ∨ P0_3_ k_) ∨ w.heap.size ≤ k_) ∧ k_ ≠ gb567 ∧ k_ ≠ gb573)) (by (with_reducible repeat (first | apply vA | apply vN | apply vD)); exact HO581.out) hg hat)
          have n6_ := am (Kd.V_afterv (ok := (fun k_ => ((P0_1_ k_ ∨ P0_2_ k_ ∨ P0_3_ k_) ∨ w.heap.size ≤ k_) ∧ k_ ≠ gb567 ∧ k_ ≠ gb573)) (by (with_reducible repeat (first | apply vA | apply vN | apply vD)); exact HO589.out) hg hat)
          have n7_ := am (hb)
          have n8_ := am (ho)
          clear HO_568001
          clear HO_568002
          clear HO_568003
          clear BK567
          clear BK573
          clear HO581
          clear HO589
          clear HB
          clear HO584
          have HO_568001 := n0_
          have HO_568002 := n1_
          have HO_568003 := n2_
          have BK567 := n3_
          have BK573 := n4_
          have HO581 := n5_
          have HO589 := n6_
          have HB := n7_
          have HO592 := n8_
          clear n0_ n1_ n2_ n3_ n4_ n5_ n6_ n7_ n8_
          clear ho hb hg hat
          obtain ⟨Ao48, co48, eo48⟩ := Kd.N_slice HO592.out
          (first | subst eo48 | (injection eo48 with f1_ f2_ f3_; have f4_ := f1_.symm; have f5_ := f3_.symm; clear f1_ f2_ f3_; subst f4_; subst f5_))
          refine hK.out _ _ ⟨(blk_cell BK567.out 0).trans rfl, (blk_cell BK567.out 1).trans rfl, (blk_cell BK567.out 2).trans rfl, (blk_cell BK567.out 3).trans rfl⟩ (fun hHeld => ?_)
          clear hK K
          refine norm_ (a' := ?_) ?_ ?_
          rotate_left
          ·show Act.put _ (some 46) _ = _
           simp only [Act.put, List.setIfInBounds_toArray, List.set_cons_zero, List.set_cons_succ, i64_w, i32_w]
           rfl
          refine pN HT_.out 11 47 ?_
          refine one_ (i := 12) (N := none) #[true, true, true, true, true, true, true, true, true, true, true, true, true] rfl rfl (one_of HT_.out (by kernel_rfl)) (by decide) (fun K hK => ?_)
          have hs49 : w47.cell? ⟨gb573, 3, none⟩ = some (.slice A0_3 l0_3.length c0_3) := (blk_cell BK573.out 3).trans rfl
          have hfs49 := blk_frozen BK573.out 3
          have hns49_0 := NB567_573.out
          have hms49_0 := NB573_567.out
          refine skip_ (w1 := ?_) (by rfl) rfl ?_ ?_
          rotate_left
          ·go_simp
           rfl
          refine hK.out _ _ ⟨((cell_far (p := ⟨gb573, _, none⟩) NB567_573.out _).trans (hHeld.1)), ((cell_far (p := ⟨gb573, _, none⟩) NB567_573.out _).trans (hHeld.2.1)), ((cell_far (p := ⟨gb573, _, none⟩) NB567_573.out _).trans (hHeld.2.2.1)), ((cell_far (p := ⟨gb573, _, none⟩) NB567_573.out _).trans (hHeld.2.2.2))⟩ (fun hHeld => ?_)
          clear hK K
          refine done_ (done_of HT_.out (by kernel_rfl)) ?_
          have n0_ : Aside0 (Kd.V Kd.string 9 (w47.setCell ⟨gb573, 3, none⟩ (.slice Ao48 y590.length co48)) w.heap.size (fun k_ => ((P0_1_ k_ ∨ P0_2_ k_ ∨ P0_3_ k_) ∨ w.heap.size ≤ k_) ∧ some k_ ≠ (.slice Ao48 y590.length co48 : Value).ownBlock ∧ k_ ≠ gb567 ∧ k_ ≠ gb573) (.slice A0_1 l0_1.length c0_1) l0_1) := ⟨by (with_reducible repeat (first | apply vA | apply vN | apply vD)); exact Kd.V_mono (Kd.V_far (p := ⟨gb573, 3, none⟩) (Kd.V_mono HO_568001.out (fun k_ hk => (⟨hk, hk.1.2.2⟩ : _ ∧ k_ ≠ gb573))) (fun _ hk => hk.2) (.slice Ao48 y590.length co48)) (fun _ hk => ⟨hk.1.1.1, ⟨hk.1.2, ⟨hk.1.1.2.1, hk.1.1.2.2⟩⟩⟩)⟩
          have n1_ : Aside0 (Kd.V Kd.string 9 (w47.setCell ⟨gb573, 3, none⟩ (.slice Ao48 y590.length co48)) w.heap.size (fun k_ => ((P0_1_ k_ ∨ P0_2_ k_ ∨ P0_3_ k_) ∨ w.heap.size ≤ k_) ∧ some k_ ≠ (.slice Ao48 y590.length co48 : Value).ownBlock ∧ k_ ≠ gb567 ∧ k_ ≠ gb573) (.slice A0_2 l0_2.length c0_2) l0_2) := ⟨by (with_reducible repeat (first | apply vA | apply vN | apply vD)); exact Kd.V_mono (Kd.V_far (p := ⟨gb573, 3, none⟩) (Kd.V_mono HO_568002.out (fun k_ hk => (⟨hk, hk.1.2.2⟩ : _ ∧ k_ ≠ gb573))) (fun _ hk => hk.2) (.slice Ao48 y590.length co48)) (fun _ hk => ⟨hk.1.1.1, ⟨hk.1.2, ⟨hk.1.1.2.1, hk.1.1.2.2⟩⟩⟩)⟩
          have n2_ : Aside0 (Kd.V (Kd.slice 9 Kd.string) 22 (w47.setCell ⟨gb573, 3, none⟩ (.slice Ao48 y590.length co48)) w.heap.size (fun k_ => ((P0_1_ k_ ∨ P0_2_ k_ ∨ P0_3_ k_) ∨ w.heap.size ≤ k_) ∧ some k_ ≠ (.slice Ao48 y590.length co48 : Value).ownBlock ∧ k_ ≠ gb567 ∧ k_ ≠ gb573) (.slice A0_3 l0_3.length c0_3) l0_3) := ⟨by (with_reducible repeat (first | apply vA | apply vN | apply vD)); exact Kd.V_mono (Kd.V_far (p := ⟨gb573, 3, none⟩) (Kd.V_mono HO_568003.out (fun k_ hk => (⟨hk, hk.1.2.2⟩ : _ ∧ k_ ≠ gb573))) (fun _ hk => hk.2) (.slice Ao48 y590.length co48)) (fun _ hk => ⟨hk.1.1.1, ⟨hk.1.2, ⟨hk.1.1.2.1, hk.1.1.2.2⟩⟩⟩)⟩
          have n3_ : Aside0 (Kd.V (Kd.slice 9 Kd.string) 22 (w47.setCell ⟨gb573, 3, none⟩ (.slice Ao48 y590.length co48)) w.heap.size (fun k_ => ((P0_1_ k_ ∨ P0_2_ k_ ∨ P0_3_ k_) ∨ w.heap.size ≤ k_) ∧ some k_ ≠ (.slice Ao48 y590.length co48 : Value).ownBlock ∧ k_ ≠ gb567 ∧ k_ ≠ gb573) (.slice A42 y577.length c42) y577) := ⟨by (with_reducible repeat (first | apply vA | apply vN | apply vD)); exact Kd.V_mono (Kd.V_far (p := ⟨gb573, 3, none⟩) (Kd.V_mono HO581.out (fun k_ hk => (⟨hk, hk.1.2.2⟩ : _ ∧ k_ ≠ gb573))) (fun _ hk => hk.2) (.slice Ao48 y590.length co48)) (fun _ hk => ⟨hk.1.1.1, ⟨hk.1.2, ⟨hk.1.1.2.1, hk.1.1.2.2⟩⟩⟩)⟩
          have n4_ : Aside0 (Kd.V (Kd.slice 9 Kd.string) 22 (w47.setCell ⟨gb573, 3, none⟩ (.slice Ao48 y590.length co48)) w.heap.size (fun k_ => ((P0_1_ k_ ∨ P0_2_ k_ ∨ P0_3_ k_) ∨ w.heap.size ≤ k_) ∧ some k_ ≠ (.slice Ao48 y590.length co48 : Value).ownBlock ∧ k_ ≠ gb567 ∧ k_ ≠ gb573) (.slice A0_3 y585.length c0_3) y585) := ⟨by (with_reducible repeat (first | apply vA | apply vN | apply vD)); exact Kd.V_mono (Kd.V_far (p := ⟨gb573, 3, none⟩) (Kd.V_mono HO589.out (fun k_ hk => (⟨hk, hk.1.2.2⟩ : _ ∧ k_ ≠ gb573))) (fun _ hk => hk.2) (.slice Ao48 y590.length co48)) (fun _ hk => ⟨hk.1.1.1, ⟨hk.1.2, ⟨hk.1.1.2.1, hk.1.1.2.2⟩⟩⟩)⟩
          have n5_ : Aside0 (Kd.N (Kd.slice 9 Kd.string) 22 (w47.setCell ⟨gb573, 3, none⟩ (.slice Ao48 y590.length co48)) w.heap.size (fun k_ => ((P0_1_ k_ ∨ P0_2_ k_ ∨ P0_3_ k_) ∨ w.heap.size ≤ k_) ∧ k_ ≠ gb567 ∧ k_ ≠ gb573) (.slice Ao48 y590.length co48) y590) := ⟨by (with_reducible repeat (first | apply nA | apply nN | apply nD)); exact Kd.N_mono (Kd.N_far (p := ⟨gb573, 3, none⟩) (Kd.N_mono HO592.out (fun k_ hk => (⟨hk, hk.2.2⟩ : _ ∧ k_ ≠ gb573))) (fun _ hk => hk.2) (.slice Ao48 y590.length co48)) (fun _ hk => ⟨hk.1.1, ⟨hk.1.2.1, hk.1.2.2⟩⟩)⟩
          have n6_ : Aside0 ((w47.setCell ⟨gb573, 3, none⟩ (.slice Ao48 y590.length co48)).heap[gb567]? = some (.cells #[.bool a0_0, .slice A0_1 l0_1.length c0_1, .slice A0_2 l0_2.length c0_2, .slice A0_3 l0_3.length c0_3] 27 (0, 0))) := ⟨by (with_reducible repeat (first | refine blk_drewN ?_ _ | refine blk_drew ?_ | refine blk_alloc ?_ _)); refine blk_far ?_ NB567_573.out _; (with_reducible repeat (first | refine blk_drewN ?_ _ | refine blk_drew ?_ | refine blk_alloc ?_ _)); exact BK567.out⟩
          have n7_ : Aside0 ((w47.setCell ⟨gb573, 3, none⟩ (.slice Ao48 y590.length co48)).heap[gb573]? = some (.cells #[.bool a0_0, .slice A0_1 l0_1.length c0_1, .slice A0_2 l0_2.length c0_2, .slice Ao48 y590.length co48] 27 (0, 0))) := ⟨by (with_reducible repeat (first | refine blk_drewN ?_ _ | refine blk_drew ?_ | refine blk_alloc ?_ _)); refine blk_put (cs := #[.bool a0_0, .slice A0_1 l0_1.length c0_1, .slice A0_2 l0_2.length c0_2, .slice A0_3 l0_3.length c0_3]) ?_ 3 _ rfl; (with_reducible repeat (first | refine blk_drewN ?_ _ | refine blk_drew ?_ | refine blk_alloc ?_ _)); exact BK573.out⟩
          have n8_ : Aside0 (Below w.heap.size w (w47.setCell ⟨gb573, 3, none⟩ (.slice Ao48 y590.length co48))) := ⟨by repeat (first | (with_reducible first | exact HB.out | apply below_alloc | apply pw_below_drewN | apply below_drew1 | refine below_set ?_ GE567.out | refine below_set ?_ GE573.out) | exact HB.out)⟩
          (try clear HO_568001)
          (try clear HO_568002)
          (try clear HO_568003)
          (try clear HO581)
          (try clear HO589)
          (try clear HO592)
          (try clear BK567)
          (try clear BK573)
          (try clear HB)
          generalize (w47.setCell ⟨gb573, 3, none⟩ (.slice Ao48 y590.length co48)) = w50 at n0_ n1_ n2_ n3_ n4_ n5_ n6_ n7_ n8_ ⊢
          have HO_568001 := n0_
          have HO_568002 := n1_
          have HO_568003 := n2_
          have HO581 := n3_
          have HO589 := n4_
          have HO592 := n5_
          have BK567 := n6_
          have BK573 := n7_
          have HB := n8_
          clear n0_ n1_ n2_ n3_ n4_ n5_ n6_ n7_ n8_
          have hcz51_0 : w50.cell? ⟨gb567, 0, none⟩ = some (.bool a0_0) := (blk_cell BK567.out 0).trans rfl
          have hcz51_1 : w50.cell? ⟨gb567, 1, none⟩ = some (.slice A0_1 l0_1.length c0_1) := (blk_cell BK567.out 1).trans rfl
          have hcz51_2 : w50.cell? ⟨gb567, 2, none⟩ = some (.slice A0_2 l0_2.length c0_2) := (blk_cell BK567.out 2).trans rfl
          have hcz51_3 : w50.cell? ⟨gb567, 3, none⟩ = some (.slice A0_3 l0_3.length c0_3) := (blk_cell BK567.out 3).trans rfl
          have hfz51_0 := blk_frozen BK567.out 0
          have hfz51_1 := blk_frozen BK567.out 1
          have hfz51_2 := blk_frozen BK567.out 2
          have hfz51_3 := blk_frozen BK567.out 3
          try go_wp2_with (first | ((with_reducible refine gate_callee (f := 36) rfl ?_); refine goesL_ (some 49) rfl rfl Try.func36 (by kernel_rfl) rfl #[.agg #[.bool a0_0, .slice A0_1 l0_1.length c0_1, .slice A0_2 l0_2.length c0_2, .slice A0_3 l0_3.length c0_3]] rfl (by (try simp only [List.map_toArray, List.map_cons, List.map_nil]); first | done | rfl | (simp only [List.length_drop, List.length_take]; rfl)) ?_; (with_reducible refine (zeal_Trim.calls kj3 a0_0 (fun k_ => (((P0_1_ k_ ∨ P0_2_ k_ ∨ P0_3_ k_) ∨ w.heap.size ≤ k_) ∧ (some k_ ≠ (.slice Ao48 y590.length co48 : Value).ownBlock ∧ (k_ ≠ gb567 ∧ k_ ≠ gb573)))) _ _ l0_1 (fun k_ => (((P0_1_ k_ ∨ P0_2_ k_ ∨ P0_3_ k_) ∨ w.heap.size ≤ k_) ∧ (some k_ ≠ (.slice Ao48 y590.length co48 : Value).ownBlock ∧ (k_ ≠ gb567 ∧ k_ ≠ gb573)))) _ _ l0_2 (fun k_ => (((P0_1_ k_ ∨ P0_2_ k_ ∨ P0_3_ k_) ∨ w.heap.size ≤ k_) ∧ (some k_ ≠ (.slice Ao48 y590.length co48 : Value).ownBlock ∧ (k_ ≠ gb567 ∧ k_ ≠ gb573)))) _ _ l0_3 t593 _ ?side1 ?side2 ?side3 A33.out).mono ?_); (case side1 => exact HO_568001.out); (case side2 => exact HO_568002.out); (case side3 => exact HO_568003.out); rintro e w52 ⟨v594, rfl, ho0, hb⟩; refine ⟨_, rfl, ?_⟩; have n0_ := am (Kd.V_elder' (by (with_reducible repeat (first | apply vA | apply vN | apply vD)); exact HO_568001.out) (Kd.N_base ho0) hb); have n1_ := am (Kd.V_elder' (by (with_reducible repeat (first | apply vA | apply vN | apply vD)); exact HO_568002.out) (Kd.N_base ho0) hb); have n2_ := am (Kd.V_elder' (by (with_reducible repeat (first | apply vA | apply vN | apply vD)); exact HO_568003.out) (Kd.N_base ho0) hb); have n3_ := am (Kd.V_elder' (by (with_reducible repeat (first | apply vA | apply vN | apply vD)); exact HO581.out) (Kd.N_base ho0) hb); have n4_ := am (Kd.V_elder' (by (with_reducible repeat (first | apply vA | apply vN | apply vD)); exact HO589.out) (Kd.N_base ho0) hb); have n5_ := am (Kd.N_elder' (by (with_reducible repeat (first | apply nA | apply nN | apply nD)); exact HO592.out) (Kd.N_base ho0) hb); have n6_ := am (Kd.N_lower (Kd.N_mono (ok' := fun k_ => ((P0_1_ k_ ∨ P0_2_ k_ ∨ P0_3_ k_) ∨ w.heap.size ≤ k_) ∧ some k_ ≠ (.slice Ao48 y590.length co48 : Value).ownBlock ∧ k_ ≠ gb567 ∧ k_ ≠ gb573) ho0 (fun k_ hk_ => ⟨Or.elim hk_ (fun hs_ => Or.elim hs_ (fun hs_ => hs_.1) (fun hs_ => Or.elim hs_ (fun hs_ => hs_.1) (fun hs_ => hs_.1))) (fun hn_ => (.inr (Nat.le_trans (below_size (by repeat (first | (with_reducible first | exact HB.out | apply below_alloc | apply pw_below_drewN | apply below_drew1 | refine below_set ?_ GE567.out | refine below_set ?_ GE573.out) | exact HB.out))) hn_))), Or.elim hk_ (fun hs_ => Or.elim hs_ (fun hs_ => hs_.2.1) (fun hs_ => Or.elim hs_ (fun hs_ => hs_.2.1) (fun hs_ => hs_.2.1))) (fun hn_ => (Kd.fresh' (Kd.N_lt (by (with_reducible repeat (first | apply nA | apply nN | apply nD)); exact HO592.out)) k_ hn_)), Or.elim hk_ (fun hs_ => Or.elim hs_ (fun hs_ => hs_.2.2.1) (fun hs_ => Or.elim hs_ (fun hs_ => hs_.2.2.1) (fun hs_ => hs_.2.2.1))) (fun hn_ => (Kd.freshB (g := gb567) (o := .cells #[.bool a0_0, .slice A0_1 l0_1.length c0_1, .slice A0_2 l0_2.length c0_2, .slice A0_3 l0_3.length c0_3] 27 (0, 0)) (by (with_reducible repeat (first | refine blk_drewN ?_ _ | refine blk_drew ?_ | refine blk_alloc ?_ _)); exact BK567.out) k_ hn_)), Or.elim hk_ (fun hs_ => Or.elim hs_ (fun hs_ => hs_.2.2.2) (fun hs_ => Or.elim hs_ (fun hs_ => hs_.2.2.2) (fun hs_ => hs_.2.2.2))) (fun hn_ => (Kd.freshB (g := gb573) (o := .cells #[.bool a0_0, .slice A0_1 l0_1.length c0_1, .slice A0_2 l0_2.length c0_2, .slice Ao48 y590.length co48] 27 (0, 0)) (by (with_reducible repeat (first | refine blk_drewN ?_ _ | refine blk_drew ?_ | refine blk_alloc ?_ _)); exact BK573.out) k_ hn_))⟩)) (below_size (by repeat (first | (with_reducible first | exact HB.out | apply below_alloc | apply pw_below_drewN | apply below_drew1 | refine below_set ?_ GE567.out | refine below_set ?_ GE573.out) | exact HB.out)))); have n7_ := am (blk_below (g := gb567) (o := .cells #[.bool a0_0, .slice A0_1 l0_1.length c0_1, .slice A0_2 l0_2.length c0_2, .slice A0_3 l0_3.length c0_3] 27 (0, 0)) (by (with_reducible repeat (first | refine blk_drewN ?_ _ | refine blk_drew ?_ | refine blk_alloc ?_ _)); exact BK567.out) hb); have n8_ := am (blk_below (g := gb573) (o := .cells #[.bool a0_0, .slice A0_1 l0_1.length c0_1, .slice A0_2 l0_2.length c0_2, .slice Ao48 y590.length co48] 27 (0, 0)) (by (with_reducible repeat (first | refine blk_drewN ?_ _ | refine blk_drew ?_ | refine blk_alloc ?_ _)); exact BK573.out) hb); have n9_ := am (below_step (by repeat (first | (with_reducible first | exact HB.out | apply below_alloc | apply pw_below_drewN | apply below_drew1 | refine below_set ?_ GE567.out | refine below_set ?_ GE573.out) | exact HB.out)) hb); clear HO_568001; clear HO_568002; clear HO_568003; clear HO581; clear HO589; clear HO592; clear BK567; clear BK573; clear HB; have HO_568001 := n0_; have HO_568002 := n1_; have HO_568003 := n2_; have HO581 := n3_; have HO589 := n4_; have HO592 := n5_; have HO595 := n6_; have BK567 := n7_; have BK573 := n8_; have HB := n9_; clear n0_ n1_ n2_ n3_ n4_ n5_ n6_ n7_ n8_ n9_; (try clear hb); (try clear hb2); (try clear hk); (try clear hi); (try clear ho0); have hcz53_0 : w52.cell? ⟨gb573, 0, none⟩ = some (.bool a0_0) := (blk_cell BK573.out 0).trans rfl; have hcz53_1 : w52.cell? ⟨gb573, 1, none⟩ = some (.slice A0_1 l0_1.length c0_1) := (blk_cell BK573.out 1).trans rfl; have hcz53_2 : w52.cell? ⟨gb573, 2, none⟩ = some (.slice A0_2 l0_2.length c0_2) := (blk_cell BK573.out 2).trans rfl; have hcz53_3 : w52.cell? ⟨gb573, 3, none⟩ = some (.slice Ao48 y590.length co48) := (blk_cell BK573.out 3).trans rfl; have hfz53_0 := blk_frozen BK573.out 0; have hfz53_1 := blk_frozen BK573.out 1; have hfz53_2 := blk_frozen BK573.out 2; have hfz53_3 := blk_frozen BK573.out 3) | ((with_reducible refine gate_callee (f := 36) rfl ?_); refine goesL_ (some 51) rfl rfl Try.func36 (by kernel_rfl) rfl #[.agg #[.bool a0_0, .slice A0_1 l0_1.length c0_1, .slice A0_2 l0_2.length c0_2, .slice Ao48 y590.length co48]] rfl (by (try simp only [List.map_toArray, List.map_cons, List.map_nil]); first | done | rfl | (simp only [List.length_drop, List.length_take]; rfl)) ?_; (with_reducible refine (zeal_Trim.calls kj3 a0_0 (fun k_ => ((((P0_1_ k_ ∨ P0_2_ k_ ∨ P0_3_ k_) ∨ w.heap.size ≤ k_) ∧ (some k_ ≠ (.slice Ao48 y590.length co48 : Value).ownBlock ∧ (k_ ≠ gb567 ∧ k_ ≠ gb573))) ∧ some k_ ≠ (v594 : Value).ownBlock)) _ _ l0_1 (fun k_ => ((((P0_1_ k_ ∨ P0_2_ k_ ∨ P0_3_ k_) ∨ w.heap.size ≤ k_) ∧ (some k_ ≠ (.slice Ao48 y590.length co48 : Value).ownBlock ∧ (k_ ≠ gb567 ∧ k_ ≠ gb573))) ∧ some k_ ≠ (v594 : Value).ownBlock)) _ _ l0_2 (fun k_ => ((((P0_1_ k_ ∨ P0_2_ k_ ∨ P0_3_ k_) ∨ w.heap.size ≤ k_) ∧ (k_ ≠ gb567 ∧ k_ ≠ gb573)) ∧ some k_ ≠ (v594 : Value).ownBlock)) _ _ y590 t596 _ ?side1 ?side2 ?side3 A34.out).mono ?_); (case side1 => exact HO_568001.out); (case side2 => exact HO_568002.out); (case side3 => exact Kd.N_V (HO592.out)); rintro e w54 ⟨v597, rfl, ho0, hb⟩; refine ⟨_, rfl, ?_⟩; have n0_ := am (Kd.V_elder' (by (with_reducible repeat (first | apply vA | apply vN | apply vD)); exact HO_568001.out) (Kd.N_base ho0) hb); have n1_ := am (Kd.V_elder' (by (with_reducible repeat (first | apply vA | apply vN | apply vD)); exact HO_568002.out) (Kd.N_base ho0) hb); have n2_ := am (Kd.V_elder' (by (with_reducible repeat (first | apply vA | apply vN | apply vD)); exact HO_568003.out) (Kd.N_base ho0) hb); have n3_ := am (Kd.V_elder' (by (with_reducible repeat (first | apply vA | apply vN | apply vD)); exact HO581.out) (Kd.N_base ho0) hb); have n4_ := am (Kd.V_elder' (by (with_reducible repeat (first | apply vA | apply vN | apply vD)); exact HO589.out) (Kd.N_base ho0) hb); have n5_ := am (Kd.N_elder' (by (with_reducible repeat (first | apply nA | apply nN | apply nD)); exact HO592.out) (Kd.N_base ho0) hb); have n6_ := am (Kd.N_elder' (by (with_reducible repeat (first | apply nA | apply nN | apply nD)); exact HO595.out) (Kd.N_base ho0) hb); have n7_ := am (Kd.N_lower (Kd.N_mono (ok' := fun k_ => ((P0_1_ k_ ∨ P0_2_ k_ ∨ P0_3_ k_) ∨ w.heap.size ≤ k_) ∧ some k_ ≠ (v594 : Value).ownBlock ∧ k_ ≠ gb567 ∧ k_ ≠ gb573) ho0 (fun k_ hk_ => ⟨Or.elim hk_ (fun hs_ => Or.elim hs_ (fun hs_ => hs_.1.1) (fun hs_ => Or.elim hs_ (fun hs_ => hs_.1.1) (fun hs_ => hs_.1.1))) (fun hn_ => (.inr (Nat.le_trans (below_size (by repeat (first | (with_reducible first | exact HB.out | apply below_alloc | apply pw_below_drewN | apply below_drew1 | refine below_set ?_ GE567.out | refine below_set ?_ GE573.out) | exact HB.out))) hn_))), Or.elim hk_ (fun hs_ => Or.elim hs_ (fun hs_ => hs_.2) (fun hs_ => Or.elim hs_ (fun hs_ => hs_.2) (fun hs_ => hs_.2))) (fun hn_ => (Kd.fresh' (Kd.N_lt (by (with_reducible repeat (first | apply nA | apply nN | apply nD)); exact HO595.out)) k_ hn_)), Or.elim hk_ (fun hs_ => Or.elim hs_ (fun hs_ => hs_.1.2.2.1) (fun hs_ => Or.elim hs_ (fun hs_ => hs_.1.2.2.1) (fun hs_ => hs_.1.2.1))) (fun hn_ => (Kd.freshB (g := gb567) (o := .cells #[.bool a0_0, .slice A0_1 l0_1.length c0_1, .slice A0_2 l0_2.length c0_2, .slice A0_3 l0_3.length c0_3] 27 (0, 0)) (by (with_reducible repeat (first | refine blk_drewN ?_ _ | refine blk_drew ?_ | refine blk_alloc ?_ _)); exact BK567.out) k_ hn_)), Or.elim hk_ (fun hs_ => Or.elim hs_ (fun hs_ => hs_.1.2.2.2) (fun hs_ => Or.elim hs_ (fun hs_ => hs_.1.2.2.2) (fun hs_ => hs_.1.2.2))) (fun hn_ => (Kd.freshB (g := gb573) (o := .cells #[.bool a0_0, .slice A0_1 l0_1.length c0_1, .slice A0_2 l0_2.length c0_2, .slice Ao48 y590.length co48] 27 (0, 0)) (by (with_reducible repeat (first | refine blk_drewN ?_ _ | refine blk_drew ?_ | refine blk_alloc ?_ _)); exact BK573.out) k_ hn_))⟩)) (below_size (by repeat (first | (with_reducible first | exact HB.out | apply below_alloc | apply pw_below_drewN | apply below_drew1 | refine below_set ?_ GE567.out | refine below_set ?_ GE573.out) | exact HB.out)))); have n8_ := am (blk_below (g := gb567) (o := .cells #[.bool a0_0, .slice A0_1 l0_1.length c0_1, .slice A0_2 l0_2.length c0_2, .slice A0_3 l0_3.length c0_3] 27 (0, 0)) (by (with_reducible repeat (first | refine blk_drewN ?_ _ | refine blk_drew ?_ | refine blk_alloc ?_ _)); exact BK567.out) hb); have n9_ := am (blk_below (g := gb573) (o := .cells #[.bool a0_0, .slice A0_1 l0_1.length c0_1, .slice A0_2 l0_2.length c0_2, .slice Ao48 y590.length co48] 27 (0, 0)) (by (with_reducible repeat (first | refine blk_drewN ?_ _ | refine blk_drew ?_ | refine blk_alloc ?_ _)); exact BK573.out) hb); have n10_ := am (below_step (by repeat (first | (with_reducible first | exact HB.out | apply below_alloc | apply pw_below_drewN | apply below_drew1 | refine below_set ?_ GE567.out | refine below_set ?_ GE573.out) | exact HB.out)) hb); clear HO_568001; clear HO_568002; clear HO_568003; clear HO581; clear HO589; clear HO592; clear HO595; clear BK567; clear BK573; clear HB; have HO_568001 := n0_; have HO_568002 := n1_; have HO_568003 := n2_; have HO581 := n3_; have HO589 := n4_; have HO592 := n5_; have HO595 := n6_; have HO598 := n7_; have BK567 := n8_; have BK573 := n9_; have HB := n10_; clear n0_ n1_ n2_ n3_ n4_ n5_ n6_ n7_ n8_ n9_ n10_; (try clear hb); (try clear hb2); (try clear hk); (try clear hi); (try clear ho0); obtain ⟨Ao55, co55, eo55⟩ := Kd.N_slice HO595.out; subst eo55; obtain ⟨Ao56, co56, eo56⟩ := Kd.N_slice HO598.out; subst eo56))
          go_loopg [10] kj3 (fun kq v10 w' => ∃ (x10_2 : Int), v10 = .int .i64 x10_2 ∧ Aside0 (sennitlaw10_ZealTurn.l0 kq t568 ji26 t593 t596 x10_2 a0_0 l0_1 l0_2 l0_3 = some r) ∧ Aside0 (kq ≤ kj3) ∧ Aside0 (Kd.N k27 27 w' w.heap.size (fun k_ => ((P0_1_ k_ ∨ P0_2_ k_ ∨ P0_3_ k_) ∨ w.heap.size ≤ k_) ∧ some k_ ≠ ((.slice Ao56 t596.length co56) : Value).ownBlock ∧ some k_ ≠ ((.slice Ao48 y590.length co48) : Value).ownBlock ∧ k_ ≠ gb567 ∧ k_ ≠ gb573) (.slice Ao55 t593.length co55) t593) ∧ Aside0 (Kd.N k27 27 w' w.heap.size (fun k_ => ((P0_1_ k_ ∨ P0_2_ k_ ∨ P0_3_ k_) ∨ w.heap.size ≤ k_) ∧ some k_ ≠ ((.slice Ao55 t593.length co55) : Value).ownBlock ∧ k_ ≠ gb567 ∧ k_ ≠ gb573) (.slice Ao56 t596.length co56) t596) ∧ Aside0 (Kd.V Kd.string 9 w' w.heap.size (fun k_ => ((P0_1_ k_ ∨ P0_2_ k_ ∨ P0_3_ k_) ∨ w.heap.size ≤ k_) ∧ some k_ ≠ ((.slice Ao55 t593.length co55) : Value).ownBlock ∧ some k_ ≠ ((.slice Ao56 t596.length co56) : Value).ownBlock ∧ some k_ ≠ ((.slice Ao48 y590.length co48) : Value).ownBlock ∧ k_ ≠ gb567 ∧ k_ ≠ gb573) (.slice A0_1 l0_1.length c0_1) l0_1) ∧ Aside0 (Kd.V Kd.string 9 w' w.heap.size (fun k_ => ((P0_1_ k_ ∨ P0_2_ k_ ∨ P0_3_ k_) ∨ w.heap.size ≤ k_) ∧ some k_ ≠ ((.slice Ao55 t593.length co55) : Value).ownBlock ∧ some k_ ≠ ((.slice Ao56 t596.length co56) : Value).ownBlock ∧ some k_ ≠ ((.slice Ao48 y590.length co48) : Value).ownBlock ∧ k_ ≠ gb567 ∧ k_ ≠ gb573) (.slice A0_2 l0_2.length c0_2) l0_2) ∧ Aside0 (Kd.V (Kd.slice 9 Kd.string) 22 w' w.heap.size (fun k_ => ((P0_1_ k_ ∨ P0_2_ k_ ∨ P0_3_ k_) ∨ w.heap.size ≤ k_) ∧ some k_ ≠ ((.slice Ao55 t593.length co55) : Value).ownBlock ∧ some k_ ≠ ((.slice Ao56 t596.length co56) : Value).ownBlock ∧ some k_ ≠ ((.slice Ao48 y590.length co48) : Value).ownBlock ∧ k_ ≠ gb567 ∧ k_ ≠ gb573) (.slice A0_3 l0_3.length c0_3) l0_3) ∧ Aside0 (Kd.V Kd.string 9 w' w.heap.size (fun k_ => ((P0_1_ k_ ∨ P0_2_ k_ ∨ P0_3_ k_) ∨ w.heap.size ≤ k_) ∧ some k_ ≠ ((.slice Ao55 t593.length co55) : Value).ownBlock ∧ some k_ ≠ ((.slice Ao56 t596.length co56) : Value).ownBlock ∧ some k_ ≠ ((.slice Ao48 y590.length co48) : Value).ownBlock ∧ k_ ≠ gb567 ∧ k_ ≠ gb573) (.slice A0_1 l0_1.length c0_1) l0_1) ∧ Aside0 (Kd.V Kd.string 9 w' w.heap.size (fun k_ => ((P0_1_ k_ ∨ P0_2_ k_ ∨ P0_3_ k_) ∨ w.heap.size ≤ k_) ∧ some k_ ≠ ((.slice Ao55 t593.length co55) : Value).ownBlock ∧ some k_ ≠ ((.slice Ao56 t596.length co56) : Value).ownBlock ∧ some k_ ≠ ((.slice Ao48 y590.length co48) : Value).ownBlock ∧ k_ ≠ gb567 ∧ k_ ≠ gb573) (.slice A0_2 l0_2.length c0_2) l0_2) ∧ Aside0 (Kd.N (Kd.slice 9 Kd.string) 22 w' w.heap.size (fun k_ => ((P0_1_ k_ ∨ P0_2_ k_ ∨ P0_3_ k_) ∨ w.heap.size ≤ k_) ∧ some k_ ≠ ((.slice Ao55 t593.length co55) : Value).ownBlock ∧ some k_ ≠ ((.slice Ao56 t596.length co56) : Value).ownBlock ∧ k_ ≠ gb567 ∧ k_ ≠ gb573) (.slice Ao48 y590.length co48) y590) ∧ Aside0 (w'.heap[gb567]? = some (.cells #[.bool a0_0, (.slice A0_1 l0_1.length c0_1), (.slice A0_2 l0_2.length c0_2), (.slice A0_3 l0_3.length c0_3)] 27 (0, 0))) ∧ Aside0 (w'.heap[gb573]? = some (.cells #[.bool a0_0, (.slice A0_1 l0_1.length c0_1), (.slice A0_2 l0_2.length c0_2), (.slice Ao48 y590.length co48)] 27 (0, 0))) ∧ Aside0 (Below w.heap.size w w'))
          case atStart => exact ⟨(0), (by first | rfl | (simp; done) | (simp [*]; done)), H', ⟨Nat.le_refl _⟩, ⟨by (with_reducible repeat (first | apply nA | apply nN | apply nD)); exact Kd.N_mono HO595.out (fun _ hk => ⟨hk.1.1, ⟨hk.2, ⟨hk.1.2.1, ⟨hk.1.2.2.1, hk.1.2.2.2⟩⟩⟩⟩)⟩, ⟨by (with_reducible repeat (first | apply nA | apply nN | apply nD)); exact HO598.out⟩, ⟨by (with_reducible repeat (first | apply vA | apply vN | apply vD)); exact Kd.V_mono HO_568001.out (fun _ hk => ⟨hk.1.1.1, ⟨hk.1.2, ⟨hk.2, ⟨hk.1.1.2.1, ⟨hk.1.1.2.2.1, hk.1.1.2.2.2⟩⟩⟩⟩⟩)⟩, ⟨by (with_reducible repeat (first | apply vA | apply vN | apply vD)); exact Kd.V_mono HO_568002.out (fun _ hk => ⟨hk.1.1.1, ⟨hk.1.2, ⟨hk.2, ⟨hk.1.1.2.1, ⟨hk.1.1.2.2.1, hk.1.1.2.2.2⟩⟩⟩⟩⟩)⟩, ⟨by (with_reducible repeat (first | apply vA | apply vN | apply vD)); exact Kd.V_mono HO_568003.out (fun _ hk => ⟨hk.1.1.1, ⟨hk.1.2, ⟨hk.2, ⟨hk.1.1.2.1, ⟨hk.1.1.2.2.1, hk.1.1.2.2.2⟩⟩⟩⟩⟩)⟩, ⟨by (with_reducible repeat (first | apply vA | apply vN | apply vD)); exact Kd.V_mono HO_568001.out (fun _ hk => ⟨hk.1.1.1, ⟨hk.1.2, ⟨hk.2, ⟨hk.1.1.2.1, ⟨hk.1.1.2.2.1, hk.1.1.2.2.2⟩⟩⟩⟩⟩)⟩, ⟨by (with_reducible repeat (first | apply vA | apply vN | apply vD)); exact Kd.V_mono HO_568002.out (fun _ hk => ⟨hk.1.1.1, ⟨hk.1.2, ⟨hk.2, ⟨hk.1.1.2.1, ⟨hk.1.1.2.2.1, hk.1.1.2.2.2⟩⟩⟩⟩⟩)⟩, ⟨by (with_reducible repeat (first | apply nA | apply nN | apply nD)); exact Kd.N_mono HO592.out (fun _ hk => ⟨hk.1.1.1, ⟨hk.1.2, ⟨hk.2, ⟨hk.1.1.2.1, hk.1.1.2.2⟩⟩⟩⟩)⟩, ⟨by (with_reducible repeat (first | refine blk_drewN ?_ _ | refine blk_drew ?_ | refine blk_alloc ?_ _)); exact BK567.out⟩, ⟨by (with_reducible repeat (first | refine blk_drewN ?_ _ | refine blk_drew ?_ | refine blk_alloc ?_ _)); exact BK573.out⟩, ⟨by repeat (first | (with_reducible first | exact HB.out | apply below_alloc | apply pw_below_drewN | apply below_drew1 | refine below_set ?_ GE567.out | refine below_set ?_ GE573.out) | exact HB.out)⟩⟩
          case round =>
           clear H'
           (try clear c1); (try clear c2); (try clear p2); (try clear c3); (try clear c4); (try clear q4); (try clear p6); (try clear c8); (try clear c9); (try clear c13); (try clear c24); (try clear c25); (try clear c25b0); (try clear c25b1); (try clear c25b2); (try clear c27); (try clear c27b0); (try clear c27b1); (try clear c28); (try clear c28b0); (try clear c28b1); (try clear c29); (try clear c30); (try clear c30b0); (try clear c31); (try clear c31b0); (try clear c32); (try clear c35); (try clear c35b0); (try clear c35b1); (try clear c35b2); (try clear c36); (try clear c38); (try clear c42); (try clear q42); (try clear q43); (try clear hcz10_0); (try clear hcz10_1); (try clear hcz10_2); (try clear hcz10_3); (try clear hcz14_0); (try clear hcz14_1); (try clear hcz14_2); (try clear hcz14_3); (try clear hcz15_0); (try clear hcz15_1); (try clear hcz15_2); (try clear hcz15_3); (try clear hcz19_0); (try clear hcz19_1); (try clear hcz19_2); (try clear hcz19_3); (try clear hcz20_0); (try clear hcz20_1); (try clear hcz20_2); (try clear hcz20_3); (try clear hcz36_0); (try clear hcz36_1); (try clear hcz36_2); (try clear hcz36_3); (try clear hcz39_0); (try clear hcz39_1); (try clear hcz39_2); (try clear hcz39_3); (try clear hcz51_0); (try clear hcz51_1); (try clear hcz51_2); (try clear hcz51_3); (try clear hcz53_0); (try clear hcz53_1); (try clear hcz53_2); (try clear hcz53_3); (try clear hfz10_0); (try clear hfz10_1); (try clear hfz10_2); (try clear hfz10_3); (try clear hfz14_0); (try clear hfz14_1); (try clear hfz14_2); (try clear hfz14_3); (try clear hfz15_0); (try clear hfz15_1); (try clear hfz15_2); (try clear hfz15_3); (try clear hfz19_0); (try clear hfz19_1); (try clear hfz19_2); (try clear hfz19_3); (try clear hfz20_0); (try clear hfz20_1); (try clear hfz20_2); (try clear hfz20_3); (try clear hfz36_0); (try clear hfz36_1); (try clear hfz36_2); (try clear hfz36_3); (try clear hfz39_0); (try clear hfz39_1); (try clear hfz39_2); (try clear hfz39_3); (try clear hfz51_0); (try clear hfz51_1); (try clear hfz51_2); (try clear hfz51_3); (try clear hfz53_0); (try clear hfz53_1); (try clear hfz53_2); (try clear hfz53_3); (try clear p2); (try clear q042); (try clear q42); (try clear q43)
           obtain ⟨x10_2, rfl, HA, HK2, HO_8, HO_9, HO_568001, HO_568002, HO_568003, HO_574001, HO_574002, HO_574003, BK567, BK573, HB⟩ := hrel
           cases gk with
           | zero => exact absurd HA.out (by simp [sennitlaw10_ZealTurn.l0])
           | succ k2 =>
            have H := HA.out
            clear HA
            simp only [sennitlaw10_ZealTurn.l0] at H
            by_cases c57 : x10_2 < (t593.length : Int)
            ·rw [if_pos c57] at H
             have c57b0 : decide (x10_2 < (t593.length : Int)) = true := decide_eq_true c57
             clear c57
             have HC58 := am H
             clear H
             go_upto_region 14 with (fail)
             go_cut [102] (fun v102 wc => ∃ (kq : Nat) (x102_57 : Bool), v102 = .bool x102_57 ∧ Aside0 (sennitlaw10_ZealTurn.j2 kq t568 ji26 t593 t596 x10_2 x102_57 a0_0 l0_1 l0_2 l0_3 = some r) ∧ Aside0 (kq ≤ k2) ∧ Aside0 (Kd.N k27 27 wc w.heap.size (fun k_ => ((P0_1_ k_ ∨ P0_2_ k_ ∨ P0_3_ k_) ∨ w.heap.size ≤ k_) ∧ some k_ ≠ ((.slice Ao56 t596.length co56) : Value).ownBlock ∧ some k_ ≠ ((.slice Ao48 y590.length co48) : Value).ownBlock ∧ k_ ≠ gb567 ∧ k_ ≠ gb573) (.slice Ao55 t593.length co55) t593) ∧ Aside0 (Kd.N k27 27 wc w.heap.size (fun k_ => ((P0_1_ k_ ∨ P0_2_ k_ ∨ P0_3_ k_) ∨ w.heap.size ≤ k_) ∧ some k_ ≠ ((.slice Ao55 t593.length co55) : Value).ownBlock ∧ k_ ≠ gb567 ∧ k_ ≠ gb573) (.slice Ao56 t596.length co56) t596) ∧ Aside0 (Kd.V Kd.string 9 wc w.heap.size (fun k_ => ((P0_1_ k_ ∨ P0_2_ k_ ∨ P0_3_ k_) ∨ w.heap.size ≤ k_) ∧ some k_ ≠ ((.slice Ao55 t593.length co55) : Value).ownBlock ∧ some k_ ≠ ((.slice Ao56 t596.length co56) : Value).ownBlock ∧ some k_ ≠ ((.slice Ao48 y590.length co48) : Value).ownBlock ∧ k_ ≠ gb567 ∧ k_ ≠ gb573) (.slice A0_1 l0_1.length c0_1) l0_1) ∧ Aside0 (Kd.V Kd.string 9 wc w.heap.size (fun k_ => ((P0_1_ k_ ∨ P0_2_ k_ ∨ P0_3_ k_) ∨ w.heap.size ≤ k_) ∧ some k_ ≠ ((.slice Ao55 t593.length co55) : Value).ownBlock ∧ some k_ ≠ ((.slice Ao56 t596.length co56) : Value).ownBlock ∧ some k_ ≠ ((.slice Ao48 y590.length co48) : Value).ownBlock ∧ k_ ≠ gb567 ∧ k_ ≠ gb573) (.slice A0_2 l0_2.length c0_2) l0_2) ∧ Aside0 (Kd.V (Kd.slice 9 Kd.string) 22 wc w.heap.size (fun k_ => ((P0_1_ k_ ∨ P0_2_ k_ ∨ P0_3_ k_) ∨ w.heap.size ≤ k_) ∧ some k_ ≠ ((.slice Ao55 t593.length co55) : Value).ownBlock ∧ some k_ ≠ ((.slice Ao56 t596.length co56) : Value).ownBlock ∧ some k_ ≠ ((.slice Ao48 y590.length co48) : Value).ownBlock ∧ k_ ≠ gb567 ∧ k_ ≠ gb573) (.slice A0_3 l0_3.length c0_3) l0_3) ∧ Aside0 (Kd.V Kd.string 9 wc w.heap.size (fun k_ => ((P0_1_ k_ ∨ P0_2_ k_ ∨ P0_3_ k_) ∨ w.heap.size ≤ k_) ∧ some k_ ≠ ((.slice Ao55 t593.length co55) : Value).ownBlock ∧ some k_ ≠ ((.slice Ao56 t596.length co56) : Value).ownBlock ∧ some k_ ≠ ((.slice Ao48 y590.length co48) : Value).ownBlock ∧ k_ ≠ gb567 ∧ k_ ≠ gb573) (.slice A0_1 l0_1.length c0_1) l0_1) ∧ Aside0 (Kd.V Kd.string 9 wc w.heap.size (fun k_ => ((P0_1_ k_ ∨ P0_2_ k_ ∨ P0_3_ k_) ∨ w.heap.size ≤ k_) ∧ some k_ ≠ ((.slice Ao55 t593.length co55) : Value).ownBlock ∧ some k_ ≠ ((.slice Ao56 t596.length co56) : Value).ownBlock ∧ some k_ ≠ ((.slice Ao48 y590.length co48) : Value).ownBlock ∧ k_ ≠ gb567 ∧ k_ ≠ gb573) (.slice A0_2 l0_2.length c0_2) l0_2) ∧ Aside0 (Kd.N (Kd.slice 9 Kd.string) 22 wc w.heap.size (fun k_ => ((P0_1_ k_ ∨ P0_2_ k_ ∨ P0_3_ k_) ∨ w.heap.size ≤ k_) ∧ some k_ ≠ ((.slice Ao55 t593.length co55) : Value).ownBlock ∧ some k_ ≠ ((.slice Ao56 t596.length co56) : Value).ownBlock ∧ k_ ≠ gb567 ∧ k_ ≠ gb573) (.slice Ao48 y590.length co48) y590) ∧ Aside0 (wc.heap[gb567]? = some (.cells #[.bool a0_0, (.slice A0_1 l0_1.length c0_1), (.slice A0_2 l0_2.length c0_2), (.slice A0_3 l0_3.length c0_3)] 27 (0, 0))) ∧ Aside0 (wc.heap[gb573]? = some (.cells #[.bool a0_0, (.slice A0_1 l0_1.length c0_1), (.slice A0_2 l0_2.length c0_2), (.slice Ao48 y590.length co48)] 27 (0, 0))) ∧ Aside0 (Below w.heap.size w wc))
             case first =>
              have H := HC58.out
              clear HC58
              by_cases c59 : 0 ≤ x10_2
              ·rw [if_pos c59] at H
               have c59b0 : decide (0 ≤ x10_2) = true := decide_eq_true c59
               clear c59
               (first | rw [c59b0] | (simp only [i64_w, i32_w]; rw [c59b0]) | skip)
               by_cases c60 : x10_2 < (t596.length : Int)
               ·rw [if_pos c60] at H
                have c60b0 : decide (x10_2 < (t596.length : Int)) = true := decide_eq_true c60
                clear c60
                by_cases c61 : (((rd_T27 t593 x10_2).f0) != ((rd_T27 t596 x10_2).f0)) = true
                ·rw [if_pos c61] at H
                 have c61b0 : (((rd_T27 t593 x10_2).f0) != ((rd_T27 t596 x10_2).f0)) = true := c61
                 (try (have c61b1 : decide (((rd_T27 t593 x10_2).f0) = ((rd_T27 t596 x10_2).f0)) = false := by simpa using c61))
                 (try (have c61b2 : (((rd_T27 t593 x10_2).f0) == ((rd_T27 t596 x10_2).f0)) = false := by simpa using c61))
                 (try (have c61b3 : ¬ (((rd_T27 t593 x10_2).f0) = ((rd_T27 t596 x10_2).f0)) := by simpa using c61))
                 clear c61
                 first | exact (sennitlaw10_ZealTurn.j2_no _ H).elim
                ·rw [if_neg c61] at H
                 have c61b0 : (((rd_T27 t593 x10_2).f0) != ((rd_T27 t596 x10_2).f0)) = false := by simpa using c61
                 (try (have c61b1 : decide (((rd_T27 t593 x10_2).f0) = ((rd_T27 t596 x10_2).f0)) = true := by simpa using c61))
                 (try (have c61b2 : (((rd_T27 t593 x10_2).f0) == ((rd_T27 t596 x10_2).f0)) = true := by simpa using c61))
                 clear c61
                 replace H := Option.bind_eq_some_iff.mp H
                 obtain ⟨t608, A630, H⟩ := H
                 replace H : (if t608 = true then (sennitlaw10_ZealTurn.j2 k2 t568 ji26 t593 t596 x10_2 ((((rd_T27 t593 x10_2).f3).length : Int) != (((rd_T27 t596 x10_2).f3).length : Int)) a0_0 l0_1 l0_2 l0_3) else (sennitlaw10_ZealTurn.j2 k2 t568 ji26 t593 t596 x10_2 true a0_0 l0_1 l0_2 l0_3)) = some r := H
                 have A63 := am A630
                 clear A630
                 by_cases c64 : t608 = true
                 ·subst c64
                  have H1 : (sennitlaw10_ZealTurn.j2 k2 t568 ji26 t593 t596 x10_2 ((((rd_T27 t593 x10_2).f3).length : Int) != (((rd_T27 t596 x10_2).f3).length : Int)) a0_0 l0_1 l0_2 l0_3) = some r := by rw [if_pos rfl] at H; exact H
                  clear H
                  have H := H1
                  clear H1
                  have H' := am H
                  clear H
                  try go_wp2
                  have n0_ := am (Kd.N_drew HO_8.out)
                  have n1_ := am (Kd.N_drew HO_9.out)
                  have n2_ := am (Kd.V_drew HO_568001.out)
                  have n3_ := am (Kd.V_drew HO_568002.out)
                  have n4_ := am (Kd.V_drew HO_568003.out)
                  have n5_ := am (Kd.V_drew HO_574001.out)
                  have n6_ := am (Kd.V_drew HO_574002.out)
                  have n7_ := am (Kd.N_drew HO_574003.out)
                  have n8_ := am (blk_drew BK567.out)
                  have n9_ := am (blk_drew BK573.out)
                  have n10_ := am (below_drew1 HB.out)
                  clear HO_8
                  clear HO_9
                  clear HO_568001
                  clear HO_568002
                  clear HO_568003
                  clear HO_574001
                  clear HO_574002
                  clear HO_574003
                  clear BK567
                  clear BK573
                  clear HB
                  have HO_8 := n0_
                  have HO_9 := n1_
                  have HO_568001 := n2_
                  have HO_568002 := n3_
                  have HO_568003 := n4_
                  have HO_574001 := n5_
                  have HO_574002 := n6_
                  have HO_574003 := n7_
                  have BK567 := n8_
                  have BK573 := n9_
                  have HB := n10_
                  clear n0_ n1_ n2_ n3_ n4_ n5_ n6_ n7_ n8_ n9_ n10_
                  have p604 : 0 ≤ (x10_2 : Int) := of_decide_eq_true (by first | (with_reducible assumption) | assumption)
                  have q604 : x10_2 < (t593.length : Int) := of_decide_eq_true (by first | (with_reducible assumption) | assumption)
                  obtain ⟨ad604, A604_1, c604_1, A604_2, c604_2, A604_3, c604_3, e604, hx604_0, hx604_1, hx604_2, hx604_3, hl604_1, hi604_1, hl604_2, hi604_2, hl604_3, hi604_3⟩ := at_T27 (Kd.N_reads' HO_8.out).2.2 x10_2 p604 q604
                  cases e604
                  obtain ⟨ce604, hce604, hMe604, hcc604⟩ := Kd.N_get HO_8.out z27 x10_2 p604 (by first | exact q604 | exact of_decide_eq_true (by first | (with_reducible assumption) | assumption) | (have e_ := (Kd.N_reads' HO_8.out).1; omega))
                  obtain ⟨ua604_1, uc604_1, ua604_2, uc604_2, ua604_3, uc604_3, rfl, ul604_1, ge604_1, ul604_2, ge604_2, ul604_3, ge604_3⟩ := k27_openF hMe604
                  have hv604_1 := hcc604 1 _ rfl
                  rw [add_field _ _ 1 (by omega)] at hv604_1
                  replace hv604_1 := Option.some.inj (hv604_1.symm.trans hx604_1)
                  injection hv604_1 with hva_ hvn_ hvc_
                  rw [hva_] at ge604_1
                  rw [hvc_] at ul604_1
                  have HL604_1 := am (show Kd.V Kd.string 9 _ w.heap.size _ _ ((rd_T27 t593 x10_2).f1) from Kd.V_mk ul604_1 ge604_1)
                  clear hva_ hvn_ hvc_ ge604_1 ul604_1
                  have hv604_2 := hcc604 2 _ rfl
                  rw [add_field _ _ 2 (by omega)] at hv604_2
                  replace hv604_2 := Option.some.inj (hv604_2.symm.trans hx604_2)
                  injection hv604_2 with hva_ hvn_ hvc_
                  rw [hva_] at ge604_2
                  rw [hvc_] at ul604_2
                  have HL604_2 := am (show Kd.V Kd.string 9 _ w.heap.size _ _ ((rd_T27 t593 x10_2).f2) from Kd.V_mk ul604_2 ge604_2)
                  clear hva_ hvn_ hvc_ ge604_2 ul604_2
                  have hv604_3 := hcc604 3 _ rfl
                  rw [add_field _ _ 3 (by omega)] at hv604_3
                  replace hv604_3 := Option.some.inj (hv604_3.symm.trans hx604_3)
                  injection hv604_3 with hva_ hvn_ hvc_
                  rw [hva_] at ge604_3
                  rw [hvc_] at ul604_3
                  have HL604_3 := am (show Kd.V (Kd.slice 9 Kd.string) 22 _ w.heap.size _ _ ((rd_T27 t593 x10_2).f3) from Kd.V_mk ul604_3 ge604_3)
                  clear hva_ hvn_ hvc_ ge604_3 ul604_3
                  clear hcc604 hce604
                  have HR604_1 := am hi604_1
                  have HC604_1 := am hl604_1
                  clear hi604_1 hl604_1
                  have HR604_2 := am hi604_2
                  have HC604_2 := am hl604_2
                  clear hi604_2 hl604_2
                  have HR604_3 := am hi604_3
                  have HC604_3 := am hl604_3
                  clear hi604_3 hl604_3
                  replace p604 := eq_true p604
                  replace q604 := eq_true q604
                  have p605 : 0 ≤ (x10_2 : Int) := of_decide_eq_true (by first | (with_reducible assumption) | assumption)
                  have q605 : x10_2 < (t596.length : Int) := of_decide_eq_true (by first | (with_reducible assumption) | assumption)
                  obtain ⟨ad605, A605_1, c605_1, A605_2, c605_2, A605_3, c605_3, e605, hx605_0, hx605_1, hx605_2, hx605_3, hl605_1, hi605_1, hl605_2, hi605_2, hl605_3, hi605_3⟩ := at_T27 (Kd.N_reads' HO_9.out).2.2 x10_2 p605 q605
                  cases e605
                  obtain ⟨ce605, hce605, hMe605, hcc605⟩ := Kd.N_get HO_9.out z27 x10_2 p605 (by first | exact q605 | exact of_decide_eq_true (by first | (with_reducible assumption) | assumption) | (have e_ := (Kd.N_reads' HO_9.out).1; omega))
                  obtain ⟨ua605_1, uc605_1, ua605_2, uc605_2, ua605_3, uc605_3, rfl, ul605_1, ge605_1, ul605_2, ge605_2, ul605_3, ge605_3⟩ := k27_openF hMe605
                  have hv605_1 := hcc605 1 _ rfl
                  rw [add_field _ _ 1 (by omega)] at hv605_1
                  replace hv605_1 := Option.some.inj (hv605_1.symm.trans hx605_1)
                  injection hv605_1 with hva_ hvn_ hvc_
                  rw [hva_] at ge605_1
                  rw [hvc_] at ul605_1
                  have HL605_1 := am (show Kd.V Kd.string 9 _ w.heap.size _ _ ((rd_T27 t596 x10_2).f1) from Kd.V_mk ul605_1 ge605_1)
                  clear hva_ hvn_ hvc_ ge605_1 ul605_1
                  have hv605_2 := hcc605 2 _ rfl
                  rw [add_field _ _ 2 (by omega)] at hv605_2
                  replace hv605_2 := Option.some.inj (hv605_2.symm.trans hx605_2)
                  injection hv605_2 with hva_ hvn_ hvc_
                  rw [hva_] at ge605_2
                  rw [hvc_] at ul605_2
                  have HL605_2 := am (show Kd.V Kd.string 9 _ w.heap.size _ _ ((rd_T27 t596 x10_2).f2) from Kd.V_mk ul605_2 ge605_2)
                  clear hva_ hvn_ hvc_ ge605_2 ul605_2
                  have hv605_3 := hcc605 3 _ rfl
                  rw [add_field _ _ 3 (by omega)] at hv605_3
                  replace hv605_3 := Option.some.inj (hv605_3.symm.trans hx605_3)
                  injection hv605_3 with hva_ hvn_ hvc_
                  rw [hva_] at ge605_3
                  rw [hvc_] at ul605_3
                  have HL605_3 := am (show Kd.V (Kd.slice 9 Kd.string) 22 _ w.heap.size _ _ ((rd_T27 t596 x10_2).f3) from Kd.V_mk ul605_3 ge605_3)
                  clear hva_ hvn_ hvc_ ge605_3 ul605_3
                  clear hcc605 hce605
                  have HR605_1 := am hi605_1
                  have HC605_1 := am hl605_1
                  clear hi605_1 hl605_1
                  have HR605_2 := am hi605_2
                  have HC605_2 := am hl605_2
                  clear hi605_2 hl605_2
                  have HR605_3 := am hi605_3
                  have HC605_3 := am hl605_3
                  clear hi605_3 hl605_3
                  replace p605 := eq_true p605
                  replace q605 := eq_true q605
                  have p606 : 0 ≤ (x10_2 : Int) := of_decide_eq_true (by first | (with_reducible assumption) | assumption)
                  have q606 : x10_2 < (t593.length : Int) := of_decide_eq_true (by first | (with_reducible assumption) | assumption)
                  obtain ⟨ad606, A606_1, c606_1, A606_2, c606_2, A606_3, c606_3, e606, hx606_0, hx606_1, hx606_2, hx606_3, hl606_1, hi606_1, hl606_2, hi606_2, hl606_3, hi606_3⟩ := at_T27 (Kd.N_reads' HO_8.out).2.2 x10_2 p606 q606
                  obtain rfl : ad604 = ad606 := (by injection e606)
                  obtain ⟨ce606, hce606, hMe606, hcc606⟩ := Kd.N_get HO_8.out z27 x10_2 p606 (by first | exact q606 | exact of_decide_eq_true (by first | (with_reducible assumption) | assumption) | (have e_ := (Kd.N_reads' HO_8.out).1; omega))
                  obtain ⟨ua606_1, uc606_1, ua606_2, uc606_2, ua606_3, uc606_3, rfl, ul606_1, ge606_1, ul606_2, ge606_2, ul606_3, ge606_3⟩ := k27_openF hMe606
                  have hv606_1 := hcc606 1 _ rfl
                  rw [add_field _ _ 1 (by omega)] at hv606_1
                  replace hv606_1 := Option.some.inj (hv606_1.symm.trans hx606_1)
                  injection hv606_1 with hva_ hvn_ hvc_
                  rw [hva_] at ge606_1
                  rw [hvc_] at ul606_1
                  have HL606_1 := am (show Kd.V Kd.string 9 _ w.heap.size _ _ ((rd_T27 t593 x10_2).f1) from Kd.V_mk ul606_1 ge606_1)
                  clear hva_ hvn_ hvc_ ge606_1 ul606_1
                  have hv606_2 := hcc606 2 _ rfl
                  rw [add_field _ _ 2 (by omega)] at hv606_2
                  replace hv606_2 := Option.some.inj (hv606_2.symm.trans hx606_2)
                  injection hv606_2 with hva_ hvn_ hvc_
                  rw [hva_] at ge606_2
                  rw [hvc_] at ul606_2
                  have HL606_2 := am (show Kd.V Kd.string 9 _ w.heap.size _ _ ((rd_T27 t593 x10_2).f2) from Kd.V_mk ul606_2 ge606_2)
                  clear hva_ hvn_ hvc_ ge606_2 ul606_2
                  have hv606_3 := hcc606 3 _ rfl
                  rw [add_field _ _ 3 (by omega)] at hv606_3
                  replace hv606_3 := Option.some.inj (hv606_3.symm.trans hx606_3)
                  injection hv606_3 with hva_ hvn_ hvc_
                  rw [hva_] at ge606_3
                  rw [hvc_] at ul606_3
                  have HL606_3 := am (show Kd.V (Kd.slice 9 Kd.string) 22 _ w.heap.size _ _ ((rd_T27 t593 x10_2).f3) from Kd.V_mk ul606_3 ge606_3)
                  clear hva_ hvn_ hvc_ ge606_3 ul606_3
                  clear hcc606 hce606
                  have HR606_1 := am hi606_1
                  have HC606_1 := am hl606_1
                  clear hi606_1 hl606_1
                  have HR606_2 := am hi606_2
                  have HC606_2 := am hl606_2
                  clear hi606_2 hl606_2
                  have HR606_3 := am hi606_3
                  have HC606_3 := am hl606_3
                  clear hi606_3 hl606_3
                  replace p606 := eq_true p606
                  replace q606 := eq_true q606
                  have ea_ := Option.some.inj (hx604_1.symm.trans hx606_1)
                  injection ea_ with ea_ en_ ec_
                  subst ea_
                  subst ec_
                  clear en_
                  have ea_ := Option.some.inj (hx604_2.symm.trans hx606_2)
                  injection ea_ with ea_ en_ ec_
                  subst ea_
                  subst ec_
                  clear en_
                  have ea_ := Option.some.inj (hx604_3.symm.trans hx606_3)
                  injection ea_ with ea_ en_ ec_
                  subst ea_
                  subst ec_
                  clear en_
                  have p607 : 0 ≤ (x10_2 : Int) := of_decide_eq_true (by first | (with_reducible assumption) | assumption)
                  have q607 : x10_2 < (t596.length : Int) := of_decide_eq_true (by first | (with_reducible assumption) | assumption)
                  obtain ⟨ad607, A607_1, c607_1, A607_2, c607_2, A607_3, c607_3, e607, hx607_0, hx607_1, hx607_2, hx607_3, hl607_1, hi607_1, hl607_2, hi607_2, hl607_3, hi607_3⟩ := at_T27 (Kd.N_reads' HO_9.out).2.2 x10_2 p607 q607
                  obtain rfl : ad605 = ad607 := (by injection e607)
                  obtain ⟨ce607, hce607, hMe607, hcc607⟩ := Kd.N_get HO_9.out z27 x10_2 p607 (by first | exact q607 | exact of_decide_eq_true (by first | (with_reducible assumption) | assumption) | (have e_ := (Kd.N_reads' HO_9.out).1; omega))
                  obtain ⟨ua607_1, uc607_1, ua607_2, uc607_2, ua607_3, uc607_3, rfl, ul607_1, ge607_1, ul607_2, ge607_2, ul607_3, ge607_3⟩ := k27_openF hMe607
                  have hv607_1 := hcc607 1 _ rfl
                  rw [add_field _ _ 1 (by omega)] at hv607_1
                  replace hv607_1 := Option.some.inj (hv607_1.symm.trans hx607_1)
                  injection hv607_1 with hva_ hvn_ hvc_
                  rw [hva_] at ge607_1
                  rw [hvc_] at ul607_1
                  have HL607_1 := am (show Kd.V Kd.string 9 _ w.heap.size _ _ ((rd_T27 t596 x10_2).f1) from Kd.V_mk ul607_1 ge607_1)
                  clear hva_ hvn_ hvc_ ge607_1 ul607_1
                  have hv607_2 := hcc607 2 _ rfl
                  rw [add_field _ _ 2 (by omega)] at hv607_2
                  replace hv607_2 := Option.some.inj (hv607_2.symm.trans hx607_2)
                  injection hv607_2 with hva_ hvn_ hvc_
                  rw [hva_] at ge607_2
                  rw [hvc_] at ul607_2
                  have HL607_2 := am (show Kd.V Kd.string 9 _ w.heap.size _ _ ((rd_T27 t596 x10_2).f2) from Kd.V_mk ul607_2 ge607_2)
                  clear hva_ hvn_ hvc_ ge607_2 ul607_2
                  have hv607_3 := hcc607 3 _ rfl
                  rw [add_field _ _ 3 (by omega)] at hv607_3
                  replace hv607_3 := Option.some.inj (hv607_3.symm.trans hx607_3)
                  injection hv607_3 with hva_ hvn_ hvc_
                  rw [hva_] at ge607_3
                  rw [hvc_] at ul607_3
                  have HL607_3 := am (show Kd.V (Kd.slice 9 Kd.string) 22 _ w.heap.size _ _ ((rd_T27 t596 x10_2).f3) from Kd.V_mk ul607_3 ge607_3)
                  clear hva_ hvn_ hvc_ ge607_3 ul607_3
                  clear hcc607 hce607
                  have HR607_1 := am hi607_1
                  have HC607_1 := am hl607_1
                  clear hi607_1 hl607_1
                  have HR607_2 := am hi607_2
                  have HC607_2 := am hl607_2
                  clear hi607_2 hl607_2
                  have HR607_3 := am hi607_3
                  have HC607_3 := am hl607_3
                  clear hi607_3 hl607_3
                  replace p607 := eq_true p607
                  replace q607 := eq_true q607
                  have ea_ := Option.some.inj (hx605_1.symm.trans hx607_1)
                  injection ea_ with ea_ en_ ec_
                  subst ea_
                  subst ec_
                  clear en_
                  have ea_ := Option.some.inj (hx605_2.symm.trans hx607_2)
                  injection ea_ with ea_ en_ ec_
                  subst ea_
                  subst ec_
                  clear en_
                  have ea_ := Option.some.inj (hx605_3.symm.trans hx607_3)
                  injection ea_ with ea_ en_ ec_
                  subst ea_
                  subst ec_
                  clear en_
                  have p609 : 0 ≤ (x10_2 : Int) := of_decide_eq_true (by first | (with_reducible assumption) | assumption)
                  have q609 : x10_2 < (t593.length : Int) := of_decide_eq_true (by first | (with_reducible assumption) | assumption)
                  obtain ⟨ad609, A609_1, c609_1, A609_2, c609_2, A609_3, c609_3, e609, hx609_0, hx609_1, hx609_2, hx609_3, hl609_1, hi609_1, hl609_2, hi609_2, hl609_3, hi609_3⟩ := at_T27 (Kd.N_reads' HO_8.out).2.2 x10_2 p609 q609
                  obtain rfl : ad604 = ad609 := (by injection e609)
                  obtain ⟨ce609, hce609, hMe609, hcc609⟩ := Kd.N_get HO_8.out z27 x10_2 p609 (by first | exact q609 | exact of_decide_eq_true (by first | (with_reducible assumption) | assumption) | (have e_ := (Kd.N_reads' HO_8.out).1; omega))
                  obtain ⟨ua609_1, uc609_1, ua609_2, uc609_2, ua609_3, uc609_3, rfl, ul609_1, ge609_1, ul609_2, ge609_2, ul609_3, ge609_3⟩ := k27_openF hMe609
                  have hv609_1 := hcc609 1 _ rfl
                  rw [add_field _ _ 1 (by omega)] at hv609_1
                  replace hv609_1 := Option.some.inj (hv609_1.symm.trans hx609_1)
                  injection hv609_1 with hva_ hvn_ hvc_
                  rw [hva_] at ge609_1
                  rw [hvc_] at ul609_1
                  have HL609_1 := am (show Kd.V Kd.string 9 _ w.heap.size _ _ ((rd_T27 t593 x10_2).f1) from Kd.V_mk ul609_1 ge609_1)
                  clear hva_ hvn_ hvc_ ge609_1 ul609_1
                  have hv609_2 := hcc609 2 _ rfl
                  rw [add_field _ _ 2 (by omega)] at hv609_2
                  replace hv609_2 := Option.some.inj (hv609_2.symm.trans hx609_2)
                  injection hv609_2 with hva_ hvn_ hvc_
                  rw [hva_] at ge609_2
                  rw [hvc_] at ul609_2
                  have HL609_2 := am (show Kd.V Kd.string 9 _ w.heap.size _ _ ((rd_T27 t593 x10_2).f2) from Kd.V_mk ul609_2 ge609_2)
                  clear hva_ hvn_ hvc_ ge609_2 ul609_2
                  have hv609_3 := hcc609 3 _ rfl
                  rw [add_field _ _ 3 (by omega)] at hv609_3
                  replace hv609_3 := Option.some.inj (hv609_3.symm.trans hx609_3)
                  injection hv609_3 with hva_ hvn_ hvc_
                  rw [hva_] at ge609_3
                  rw [hvc_] at ul609_3
                  have HL609_3 := am (show Kd.V (Kd.slice 9 Kd.string) 22 _ w.heap.size _ _ ((rd_T27 t593 x10_2).f3) from Kd.V_mk ul609_3 ge609_3)
                  clear hva_ hvn_ hvc_ ge609_3 ul609_3
                  clear hcc609 hce609
                  have HR609_1 := am hi609_1
                  have HC609_1 := am hl609_1
                  clear hi609_1 hl609_1
                  have HR609_2 := am hi609_2
                  have HC609_2 := am hl609_2
                  clear hi609_2 hl609_2
                  have HR609_3 := am hi609_3
                  have HC609_3 := am hl609_3
                  clear hi609_3 hl609_3
                  replace p609 := eq_true p609
                  replace q609 := eq_true q609
                  have ea_ := Option.some.inj (hx604_1.symm.trans hx609_1)
                  injection ea_ with ea_ en_ ec_
                  subst ea_
                  subst ec_
                  clear en_
                  have ea_ := Option.some.inj (hx604_2.symm.trans hx609_2)
                  injection ea_ with ea_ en_ ec_
                  subst ea_
                  subst ec_
                  clear en_
                  have ea_ := Option.some.inj (hx604_3.symm.trans hx609_3)
                  injection ea_ with ea_ en_ ec_
                  subst ea_
                  subst ec_
                  clear en_
                  have p610 : 0 ≤ (x10_2 : Int) := of_decide_eq_true (by first | (with_reducible assumption) | assumption)
                  have q610 : x10_2 < (t596.length : Int) := of_decide_eq_true (by first | (with_reducible assumption) | assumption)
                  obtain ⟨ad610, A610_1, c610_1, A610_2, c610_2, A610_3, c610_3, e610, hx610_0, hx610_1, hx610_2, hx610_3, hl610_1, hi610_1, hl610_2, hi610_2, hl610_3, hi610_3⟩ := at_T27 (Kd.N_reads' HO_9.out).2.2 x10_2 p610 q610
                  obtain rfl : ad605 = ad610 := (by injection e610)
                  obtain ⟨ce610, hce610, hMe610, hcc610⟩ := Kd.N_get HO_9.out z27 x10_2 p610 (by first | exact q610 | exact of_decide_eq_true (by first | (with_reducible assumption) | assumption) | (have e_ := (Kd.N_reads' HO_9.out).1; omega))
                  obtain ⟨ua610_1, uc610_1, ua610_2, uc610_2, ua610_3, uc610_3, rfl, ul610_1, ge610_1, ul610_2, ge610_2, ul610_3, ge610_3⟩ := k27_openF hMe610
                  have hv610_1 := hcc610 1 _ rfl
                  rw [add_field _ _ 1 (by omega)] at hv610_1
                  replace hv610_1 := Option.some.inj (hv610_1.symm.trans hx610_1)
                  injection hv610_1 with hva_ hvn_ hvc_
                  rw [hva_] at ge610_1
                  rw [hvc_] at ul610_1
                  have HL610_1 := am (show Kd.V Kd.string 9 _ w.heap.size _ _ ((rd_T27 t596 x10_2).f1) from Kd.V_mk ul610_1 ge610_1)
                  clear hva_ hvn_ hvc_ ge610_1 ul610_1
                  have hv610_2 := hcc610 2 _ rfl
                  rw [add_field _ _ 2 (by omega)] at hv610_2
                  replace hv610_2 := Option.some.inj (hv610_2.symm.trans hx610_2)
                  injection hv610_2 with hva_ hvn_ hvc_
                  rw [hva_] at ge610_2
                  rw [hvc_] at ul610_2
                  have HL610_2 := am (show Kd.V Kd.string 9 _ w.heap.size _ _ ((rd_T27 t596 x10_2).f2) from Kd.V_mk ul610_2 ge610_2)
                  clear hva_ hvn_ hvc_ ge610_2 ul610_2
                  have hv610_3 := hcc610 3 _ rfl
                  rw [add_field _ _ 3 (by omega)] at hv610_3
                  replace hv610_3 := Option.some.inj (hv610_3.symm.trans hx610_3)
                  injection hv610_3 with hva_ hvn_ hvc_
                  rw [hva_] at ge610_3
                  rw [hvc_] at ul610_3
                  have HL610_3 := am (show Kd.V (Kd.slice 9 Kd.string) 22 _ w.heap.size _ _ ((rd_T27 t596 x10_2).f3) from Kd.V_mk ul610_3 ge610_3)
                  clear hva_ hvn_ hvc_ ge610_3 ul610_3
                  clear hcc610 hce610
                  have HR610_1 := am hi610_1
                  have HC610_1 := am hl610_1
                  clear hi610_1 hl610_1
                  have HR610_2 := am hi610_2
                  have HC610_2 := am hl610_2
                  clear hi610_2 hl610_2
                  have HR610_3 := am hi610_3
                  have HC610_3 := am hl610_3
                  clear hi610_3 hl610_3
                  replace p610 := eq_true p610
                  replace q610 := eq_true q610
                  have ea_ := Option.some.inj (hx605_1.symm.trans hx610_1)
                  injection ea_ with ea_ en_ ec_
                  subst ea_
                  subst ec_
                  clear en_
                  have ea_ := Option.some.inj (hx605_2.symm.trans hx610_2)
                  injection ea_ with ea_ en_ ec_
                  subst ea_
                  subst ec_
                  clear en_
                  have ea_ := Option.some.inj (hx605_3.symm.trans hx610_3)
                  injection ea_ with ea_ en_ ec_
                  subst ea_
                  subst ec_
                  clear en_
                  refine start_ (n := 40) (S := fun w' => w'.cell? (ad604.add ((x10_2).toNat * 4)) = some (.bool ((rd_T27 t593 x10_2).f0)) ∧ w'.cell? ⟨(ad604.add ((x10_2).toNat * 4)).block, (ad604.add ((x10_2).toNat * 4)).off + 1, none⟩ = some (.slice A604_1 ((rd_T27 t593 x10_2).f1).length c604_1) ∧ w'.cell? ⟨(ad604.add ((x10_2).toNat * 4)).block, (ad604.add ((x10_2).toNat * 4)).off + 2, none⟩ = some (.slice A604_2 ((rd_T27 t593 x10_2).f2).length c604_2) ∧ w'.cell? ⟨(ad604.add ((x10_2).toNat * 4)).block, (ad604.add ((x10_2).toNat * 4)).off + 3, none⟩ = some (.slice A604_3 ((rd_T27 t593 x10_2).f3).length c604_3) ∧ w'.cell? (ad605.add ((x10_2).toNat * 4)) = some (.bool ((rd_T27 t596 x10_2).f0)) ∧ w'.cell? ⟨(ad605.add ((x10_2).toNat * 4)).block, (ad605.add ((x10_2).toNat * 4)).off + 1, none⟩ = some (.slice A605_1 ((rd_T27 t596 x10_2).f1).length c605_1) ∧ w'.cell? ⟨(ad605.add ((x10_2).toNat * 4)).block, (ad605.add ((x10_2).toNat * 4)).off + 2, none⟩ = some (.slice A605_2 ((rd_T27 t596 x10_2).f2).length c605_2) ∧ w'.cell? ⟨(ad605.add ((x10_2).toNat * 4)).block, (ad605.add ((x10_2).toNat * 4)).off + 3, none⟩ = some (.slice A605_3 ((rd_T27 t596 x10_2).f3).length c605_3) ∧ w'.cell? (ad604.add ((x10_2).toNat * 4)) = some (.bool ((rd_T27 t593 x10_2).f0)) ∧ w'.cell? ⟨(ad604.add ((x10_2).toNat * 4)).block, (ad604.add ((x10_2).toNat * 4)).off + 1, none⟩ = some (.slice A604_1 ((rd_T27 t593 x10_2).f1).length c604_1) ∧ w'.cell? ⟨(ad604.add ((x10_2).toNat * 4)).block, (ad604.add ((x10_2).toNat * 4)).off + 2, none⟩ = some (.slice A604_2 ((rd_T27 t593 x10_2).f2).length c604_2) ∧ w'.cell? ⟨(ad604.add ((x10_2).toNat * 4)).block, (ad604.add ((x10_2).toNat * 4)).off + 3, none⟩ = some (.slice A604_3 ((rd_T27 t593 x10_2).f3).length c604_3) ∧ w'.cell? (ad605.add ((x10_2).toNat * 4)) = some (.bool ((rd_T27 t596 x10_2).f0)) ∧ w'.cell? ⟨(ad605.add ((x10_2).toNat * 4)).block, (ad605.add ((x10_2).toNat * 4)).off + 1, none⟩ = some (.slice A605_1 ((rd_T27 t596 x10_2).f1).length c605_1) ∧ w'.cell? ⟨(ad605.add ((x10_2).toNat * 4)).block, (ad605.add ((x10_2).toNat * 4)).off + 2, none⟩ = some (.slice A605_2 ((rd_T27 t596 x10_2).f2).length c605_2) ∧ w'.cell? ⟨(ad605.add ((x10_2).toNat * 4)).block, (ad605.add ((x10_2).toNat * 4)).off + 3, none⟩ = some (.slice A605_3 ((rd_T27 t596 x10_2).f3).length c605_3) ∧ w'.cell? (ad604.add ((x10_2).toNat * 4)) = some (.bool ((rd_T27 t593 x10_2).f0)) ∧ w'.cell? ⟨(ad604.add ((x10_2).toNat * 4)).block, (ad604.add ((x10_2).toNat * 4)).off + 1, none⟩ = some (.slice A604_1 ((rd_T27 t593 x10_2).f1).length c604_1) ∧ w'.cell? ⟨(ad604.add ((x10_2).toNat * 4)).block, (ad604.add ((x10_2).toNat * 4)).off + 2, none⟩ = some (.slice A604_2 ((rd_T27 t593 x10_2).f2).length c604_2) ∧ w'.cell? ⟨(ad604.add ((x10_2).toNat * 4)).block, (ad604.add ((x10_2).toNat * 4)).off + 3, none⟩ = some (.slice A604_3 ((rd_T27 t593 x10_2).f3).length c604_3) ∧ w'.cell? (ad605.add ((x10_2).toNat * 4)) = some (.bool ((rd_T27 t596 x10_2).f0)) ∧ w'.cell? ⟨(ad605.add ((x10_2).toNat * 4)).block, (ad605.add ((x10_2).toNat * 4)).off + 1, none⟩ = some (.slice A605_1 ((rd_T27 t596 x10_2).f1).length c605_1) ∧ w'.cell? ⟨(ad605.add ((x10_2).toNat * 4)).block, (ad605.add ((x10_2).toNat * 4)).off + 2, none⟩ = some (.slice A605_2 ((rd_T27 t596 x10_2).f2).length c605_2) ∧ w'.cell? ⟨(ad605.add ((x10_2).toNat * 4)).block, (ad605.add ((x10_2).toNat * 4)).off + 3, none⟩ = some (.slice A605_3 ((rd_T27 t596 x10_2).f3).length c605_3)) (ds := []) #[false, false, false, false, false, false, false, false, false, false, false, false, false, false, false, false, false, false, false, false, false, false, false, false, false, false, false, false, false, false, false, false, false, false, false, false, false, false, false, false] (by kernel_rfl) rfl rfl ⟨hx604_0, hx604_1, hx604_2, hx604_3, hx605_0, hx605_1, hx605_2, hx605_3, hx606_0, hx606_1, hx606_2, hx606_3, hx607_0, hx607_1, hx607_2, hx607_3, hx609_0, hx609_1, hx609_2, hx609_3, hx610_0, hx610_1, hx610_2, hx610_3⟩ (fun hHeld => ?_); refine with_tabW sennitlaw10_ZealTurn.tab14 sennitlaw10_ZealTurn.bits14 (fun HT_ HW_ => ?_)
                  generalize wr.drew = w65 at HO_8 HO_9 HO_568001 HO_568002 HO_568003 HO_574001 HO_574002 HO_574003 BK567 BK573 HB HL604_1 HL604_2 HL604_3 HL605_1 HL605_2 HL605_3 HL606_1 HL606_2 HL606_3 HL607_1 HL607_2 HL607_3 HL609_1 HL609_2 HL609_3 HL610_1 HL610_2 HL610_3 HR604_1 HR604_2 HR604_3 HR605_1 HR605_2 HR605_3 HR606_1 HR606_2 HR606_3 HR607_1 HR607_2 HR607_3 HR609_1 HR609_2 HR609_3 HR610_1 HR610_2 HR610_3 hx604_0 hx604_1 hx604_2 hx604_3 hx605_0 hx605_1 hx605_2 hx605_3 hx606_0 hx606_1 hx606_2 hx606_3 hx607_0 hx607_1 hx607_2 hx607_3 hx609_0 hx609_1 hx609_2 hx609_3 hx610_0 hx610_1 hx610_2 hx610_3 hHeld ⊢
                  refine pN HT_.out 0 63 ?_
                  refine pN HT_.out 1 64 ?_
                  refine pN HT_.out 2 65 ?_
                  refine pN HT_.out 3 66 ?_
                  refine pN HT_.out 5 68 ?_
                  refine pN HT_.out 6 69 ?_
                  refine pN HT_.out 7 70 ?_
                  refine pN HT_.out 8 71 ?_
                  refine take_ (i := 4) (N := some 67) (v := ?_) (a' := ?_) #[true, true, true, true, true, true, true, true, true, false, false, false, false, false, false, false, false, false, false, false, false, false, false, false, false, false, false, false, false, false, false, false, false, false, false, false, false, false, false, false] rfl rfl (take_ofW HT_.out HW_.out (by kernel_rfl)) (fun _ _ _ h => h) (Or.inl ⟨by rfl, ?_⟩) hHeld ?_ ?_
                  rotate_left
                  ·rintro w' ⟨s0, s1, s2, s3, s4, s5, s6, s7, s8, s9, s10, s11, s12, s13, s14, s15, s16, s17, s18, s19, s20, s21, s22, s23⟩
                   go_simp
                   with_reducible rfl
                  rotate_left
                  ·simp only [Act.put, List.setIfInBounds_toArray, List.set_cons_zero, List.set_cons_succ, i64_w, i32_w]
                   rfl
                  refine take_ (i := 9) (N := some 72) (v := ?_) (a' := ?_) #[true, true, true, true, true, true, true, true, true, true, false, false, false, false, false, false, false, false, false, false, false, false, false, false, false, false, false, false, false, false, false, false, false, false, false, false, false, false, false, false] rfl rfl (take_ofW HT_.out HW_.out (by kernel_rfl)) (fun _ _ _ h => h) (Or.inl ⟨by rfl, ?_⟩) hHeld ?_ ?_
                  rotate_left
                  ·rintro w' ⟨s0, s1, s2, s3, s4, s5, s6, s7, s8, s9, s10, s11, s12, s13, s14, s15, s16, s17, s18, s19, s20, s21, s22, s23⟩
                   go_simp
                   with_reducible rfl
                  rotate_left
                  ·simp only [Act.put, List.setIfInBounds_toArray, List.set_cons_zero, List.set_cons_succ, i64_w, i32_w]
                   rfl
                  refine pN HT_.out 10 73 ?_
                  refine pN HT_.out 11 74 ?_
                  refine pN HT_.out 12 75 ?_
                  refine pN HT_.out 13 76 ?_
                  refine pN HT_.out 14 77 ?_
                  refine pN HT_.out 15 78 ?_
                  refine pN HT_.out 17 80 ?_
                  refine pN HT_.out 18 81 ?_
                  refine pN HT_.out 19 82 ?_
                  refine pN HT_.out 20 83 ?_
                  refine take_ (i := 16) (N := some 79) (v := ?_) (a' := ?_) #[true, true, true, true, true, true, true, true, true, true, true, true, true, true, true, true, true, true, true, true, true, false, false, false, false, false, false, false, false, false, false, false, false, false, false, false, false, false, false, false] rfl rfl (take_ofW HT_.out HW_.out (by kernel_rfl)) (fun _ _ _ h => h) (Or.inl ⟨by rfl, ?_⟩) hHeld ?_ ?_
                  rotate_left
                  ·rintro w' ⟨s0, s1, s2, s3, s4, s5, s6, s7, s8, s9, s10, s11, s12, s13, s14, s15, s16, s17, s18, s19, s20, s21, s22, s23⟩
                   go_simp
                   with_reducible rfl
                  rotate_left
                  ·simp only [Act.put, List.setIfInBounds_toArray, List.set_cons_zero, List.set_cons_succ, i64_w, i32_w]
                   rfl
                  refine take_ (i := 21) (N := some 84) (v := ?_) (a' := ?_) #[true, true, true, true, true, true, true, true, true, true, true, true, true, true, true, true, true, true, true, true, true, true, false, false, false, false, false, false, false, false, false, false, false, false, false, false, false, false, false, false] rfl rfl (take_ofW HT_.out HW_.out (by kernel_rfl)) (fun _ _ _ h => h) (Or.inl ⟨by rfl, ?_⟩) hHeld ?_ ?_
                  rotate_left
                  ·rintro w' ⟨s0, s1, s2, s3, s4, s5, s6, s7, s8, s9, s10, s11, s12, s13, s14, s15, s16, s17, s18, s19, s20, s21, s22, s23⟩
                   go_simp
                   with_reducible rfl
                  rotate_left
                  ·simp only [Act.put, List.setIfInBounds_toArray, List.set_cons_zero, List.set_cons_succ, i64_w, i32_w]
                   rfl
                  refine one_ (i := 22) (N := some 85) #[true, true, true, true, true, true, true, true, true, true, true, true, true, true, true, true, true, true, true, true, true, true, true, false, false, false, false, false, false, false, false, false, false, false, false, false, false, false, false, false] rfl rfl (one_of HT_.out (by kernel_rfl)) (by decide) (fun K hK => ?_)
                  refine goes_ Try.func24 (by kernel_rfl) rfl #[.slice A604_1 ((rd_T27 t593 x10_2).f1).length c604_1, .slice A605_1 ((rd_T27 t596 x10_2).f1).length c605_1] (by rfl) rfl rfl (by (try simp only [List.map_toArray, List.map_cons, List.map_nil]); first | done | rfl | (simp only [List.length_drop, List.length_take]; rfl)) ?_
                  with_reducible refine (sennitref01_Same.calls k2 _ _ ((rd_T27 t593 x10_2).f1) _ _ ((rd_T27 t596 x10_2).f1) true _ ?side1 ?side2 ?side3 ?side4 A63.out).mono ?_
                  (case side1 => repeat (first | exact (by repeat (first | (with_reducible exact HR606_1.out) | (with_reducible refine Kd.C_alloc ?_ _) | (with_reducible refine Kd.C_drewN ?_ _) | (with_reducible refine Kd.C_drew ?_) | exact HR606_1.out)) | (with_reducible refine Kd.C_alloc ?_ _) | (with_reducible refine Kd.C_drewN ?_ _) | (with_reducible refine Kd.C_drew ?_)))
                  (case side2 => exact HC606_1.out)
                  (case side3 => repeat (first | exact (by repeat (first | (with_reducible exact HR607_1.out) | (with_reducible refine Kd.C_alloc ?_ _) | (with_reducible refine Kd.C_drewN ?_ _) | (with_reducible refine Kd.C_drew ?_) | exact HR607_1.out)) | (with_reducible refine Kd.C_alloc ?_ _) | (with_reducible refine Kd.C_drewN ?_ _) | (with_reducible refine Kd.C_drew ?_)))
                  (case side4 => exact HC607_1.out)
                  rintro e w' ⟨rfl, ⟨nd, rfl⟩⟩
                  refine ⟨_, rfl, ?_⟩
                  refine hK.out _ _ ⟨hHeld.1, hHeld.2.1, hHeld.2.2.1, hHeld.2.2.2.1, hHeld.2.2.2.2.1, hHeld.2.2.2.2.2.1, hHeld.2.2.2.2.2.2.1, hHeld.2.2.2.2.2.2.2.1, hHeld.2.2.2.2.2.2.2.2.1, hHeld.2.2.2.2.2.2.2.2.2.1, hHeld.2.2.2.2.2.2.2.2.2.2.1, hHeld.2.2.2.2.2.2.2.2.2.2.2.1, hHeld.2.2.2.2.2.2.2.2.2.2.2.2.1, hHeld.2.2.2.2.2.2.2.2.2.2.2.2.2.1, hHeld.2.2.2.2.2.2.2.2.2.2.2.2.2.2.1, hHeld.2.2.2.2.2.2.2.2.2.2.2.2.2.2.2.1, hHeld.2.2.2.2.2.2.2.2.2.2.2.2.2.2.2.2.1, hHeld.2.2.2.2.2.2.2.2.2.2.2.2.2.2.2.2.2.1, hHeld.2.2.2.2.2.2.2.2.2.2.2.2.2.2.2.2.2.2.1, hHeld.2.2.2.2.2.2.2.2.2.2.2.2.2.2.2.2.2.2.2.1, hHeld.2.2.2.2.2.2.2.2.2.2.2.2.2.2.2.2.2.2.2.2.1, hHeld.2.2.2.2.2.2.2.2.2.2.2.2.2.2.2.2.2.2.2.2.2.1, hHeld.2.2.2.2.2.2.2.2.2.2.2.2.2.2.2.2.2.2.2.2.2.2.1, hHeld.2.2.2.2.2.2.2.2.2.2.2.2.2.2.2.2.2.2.2.2.2.2.2⟩ (fun hHeld => ?_)
                  clear hK K
                  refine norm_ (a' := ?_) ?_ ?_
                  rotate_left
                  ·show Act.put _ (some 85) _ = _
                   simp only [Act.put, List.setIfInBounds_toArray, List.set_cons_zero, List.set_cons_succ, i64_w, i32_w]
                   rfl
                  refine pN HT_.out 23 86 ?_
                  refine pN HT_.out 24 87 ?_
                  refine pN HT_.out 25 88 ?_
                  refine pN HT_.out 26 89 ?_
                  refine pN HT_.out 27 90 ?_
                  refine pN HT_.out 28 91 ?_
                  refine pN HT_.out 29 92 ?_
                  refine pN HT_.out 32 95 ?_
                  refine pN HT_.out 33 96 ?_
                  refine pN HT_.out 34 97 ?_
                  refine pN HT_.out 35 98 ?_
                  refine take_ (i := 30) (N := some 93) (v := ?_) (a' := ?_) #[true, true, true, true, true, true, true, true, true, true, true, true, true, true, true, true, true, true, true, true, true, true, true, true, true, true, true, true, true, true, true, false, true, true, true, true, false, false, false, false] rfl rfl (take_ofW HT_.out HW_.out (by kernel_rfl)) (fun _ _ _ h => h) (Or.inl ⟨by rfl, ?_⟩) hHeld ?_ ?_
                  rotate_left
                  ·rintro w' ⟨s0, s1, s2, s3, s4, s5, s6, s7, s8, s9, s10, s11, s12, s13, s14, s15, s16, s17, s18, s19, s20, s21, s22, s23⟩
                   go_simp
                   with_reducible rfl
                  rotate_left
                  ·simp only [Act.put, List.setIfInBounds_toArray, List.set_cons_zero, List.set_cons_succ, i64_w, i32_w]
                   rfl
                  refine pN HT_.out 31 94 ?_
                  refine take_ (i := 36) (N := some 99) (v := ?_) (a' := ?_) #[true, true, true, true, true, true, true, true, true, true, true, true, true, true, true, true, true, true, true, true, true, true, true, true, true, true, true, true, true, true, true, true, true, true, true, true, true, false, false, false] rfl rfl (take_ofW HT_.out HW_.out (by kernel_rfl)) (fun _ _ _ h => h) (Or.inl ⟨by rfl, ?_⟩) hHeld ?_ ?_
                  rotate_left
                  ·rintro w' ⟨s0, s1, s2, s3, s4, s5, s6, s7, s8, s9, s10, s11, s12, s13, s14, s15, s16, s17, s18, s19, s20, s21, s22, s23⟩
                   go_simp
                   with_reducible rfl
                  rotate_left
                  ·simp only [Act.put, List.setIfInBounds_toArray, List.set_cons_zero, List.set_cons_succ, i64_w, i32_w]
                   rfl
                  refine pN HT_.out 37 100 ?_
                  refine pN HT_.out 38 101 ?_
                  refine pN HT_.out 39 102 ?_
                  refine done_ (done_of HT_.out (by kernel_rfl)) ?_
                  try go_wp2
                  go_meet
                  case rel => exact ⟨_, (((((rd_T27 t593 x10_2).f3).length : Int) != (((rd_T27 t596 x10_2).f3).length : Int))), (by first | rfl | (simp; done) | (simp [*]; done)), H', ⟨by have := HJ3.out; have := HK2.out; first | omega | exact Nat.le_refl _⟩, ⟨by (with_reducible repeat (first | apply nA | apply nN | apply nD)); exact HO_8.out⟩, ⟨by (with_reducible repeat (first | apply nA | apply nN | apply nD)); exact HO_9.out⟩, ⟨by (with_reducible repeat (first | apply vA | apply vN | apply vD)); exact HO_568001.out⟩, ⟨by (with_reducible repeat (first | apply vA | apply vN | apply vD)); exact HO_568002.out⟩, ⟨by (with_reducible repeat (first | apply vA | apply vN | apply vD)); exact HO_568003.out⟩, ⟨by (with_reducible repeat (first | apply vA | apply vN | apply vD)); exact HO_574001.out⟩, ⟨by (with_reducible repeat (first | apply vA | apply vN | apply vD)); exact HO_574002.out⟩, ⟨by (with_reducible repeat (first | apply nA | apply nN | apply nD)); exact HO_574003.out⟩, ⟨by (with_reducible repeat (first | refine blk_drewN ?_ _ | refine blk_drew ?_ | refine blk_alloc ?_ _)); exact BK567.out⟩, ⟨by (with_reducible repeat (first | refine blk_drewN ?_ _ | refine blk_drew ?_ | refine blk_alloc ?_ _)); exact BK573.out⟩, ⟨by repeat (first | (with_reducible first | exact HB.out | apply below_alloc | apply pw_below_drewN | apply below_drew1 | refine below_set ?_ GE567.out | refine below_set ?_ GE573.out) | exact HB.out)⟩⟩
                 ·replace c64 := Bool.eq_false_iff.mpr c64
                  subst c64
                  have H1 : (sennitlaw10_ZealTurn.j2 k2 t568 ji26 t593 t596 x10_2 true a0_0 l0_1 l0_2 l0_3) = some r := by rw [if_neg (show ¬ (false = true) by decide)] at H; exact H
                  clear H
                  have H := H1
                  clear H1
                  first | exact (sennitlaw10_ZealTurn.j2_no _ H).elim
               ·rw [if_neg c60] at H
                exact absurd H (by simp)
              ·rw [if_neg c59] at H
               exact absurd H (by simp)
             case rest =>
              clear HC58
              (try clear c2); (try clear p2); (try clear c5); (try clear c6); (try clear p6); (try clear q6); (try clear hx6); (try clear c24); (try clear c59); (try clear c60); (try clear p60); (try clear q60); (try clear hx60); (try clear c64); (try clear hx604_0); (try clear hx604_1); (try clear hx604_2); (try clear hx604_3); (try clear hx605_0); (try clear hx605_1); (try clear hx605_2); (try clear hx605_3); (try clear hx606_0); (try clear hx606_1); (try clear hx606_2); (try clear hx606_3); (try clear hx607_0); (try clear hx607_1); (try clear hx607_2); (try clear hx607_3); (try clear p604); (try clear p605); (try clear p606); (try clear p607); (try clear q604); (try clear q605); (try clear q606); (try clear q607)
              obtain ⟨kq, x102_57, rfl, HA, HJ57, HO_8, HO_9, HO_568001, HO_568002, HO_568003, HO_574001, HO_574002, HO_574003, BK567, BK573, HB⟩ := hcut
              cases kq with
              | zero => exact absurd HA.out (by simp [sennitlaw10_ZealTurn.j2])
              | succ kj57 =>
               have H := HA.out
               clear HA
               simp only [sennitlaw10_ZealTurn.j2] at H
               by_cases c67 : x102_57 = true
               ·subst c67
                have H1 : (none) = some r := by rw [if_pos rfl] at H; exact H
                clear H
                have H := H1
                clear H1
                exact absurd H (by simp)
               ·replace c67 := Bool.eq_false_iff.mpr c67
                subst c67
                have H1 : (sennitlaw10_ZealTurn.l1 kj57 t568 ji26 t593 t596 x10_2 0 a0_0 l0_1 l0_2 l0_3) = some r := by rw [if_neg (show ¬ (false = true) by decide)] at H; exact H
                clear H
                have H := H1
                clear H1
                have H' := am H
                clear H
                go_wp2
                go_loopg [11] kj57 (fun kq v11 w' => ∃ (x11_4 : Int), v11 = .int .i64 x11_4 ∧ Aside0 (sennitlaw10_ZealTurn.l1 kq t568 ji26 t593 t596 x10_2 x11_4 a0_0 l0_1 l0_2 l0_3 = some r) ∧ Aside0 (kq ≤ kj57) ∧ Aside0 (Kd.N k27 27 w' w.heap.size (fun k_ => ((P0_1_ k_ ∨ P0_2_ k_ ∨ P0_3_ k_) ∨ w.heap.size ≤ k_) ∧ some k_ ≠ ((.slice Ao56 t596.length co56) : Value).ownBlock ∧ some k_ ≠ ((.slice Ao48 y590.length co48) : Value).ownBlock ∧ k_ ≠ gb567 ∧ k_ ≠ gb573) (.slice Ao55 t593.length co55) t593) ∧ Aside0 (Kd.N k27 27 w' w.heap.size (fun k_ => ((P0_1_ k_ ∨ P0_2_ k_ ∨ P0_3_ k_) ∨ w.heap.size ≤ k_) ∧ some k_ ≠ ((.slice Ao55 t593.length co55) : Value).ownBlock ∧ k_ ≠ gb567 ∧ k_ ≠ gb573) (.slice Ao56 t596.length co56) t596) ∧ Aside0 (Kd.V Kd.string 9 w' w.heap.size (fun k_ => ((P0_1_ k_ ∨ P0_2_ k_ ∨ P0_3_ k_) ∨ w.heap.size ≤ k_) ∧ some k_ ≠ ((.slice Ao55 t593.length co55) : Value).ownBlock ∧ some k_ ≠ ((.slice Ao56 t596.length co56) : Value).ownBlock ∧ some k_ ≠ ((.slice Ao48 y590.length co48) : Value).ownBlock ∧ k_ ≠ gb567 ∧ k_ ≠ gb573) (.slice A0_1 l0_1.length c0_1) l0_1) ∧ Aside0 (Kd.V Kd.string 9 w' w.heap.size (fun k_ => ((P0_1_ k_ ∨ P0_2_ k_ ∨ P0_3_ k_) ∨ w.heap.size ≤ k_) ∧ some k_ ≠ ((.slice Ao55 t593.length co55) : Value).ownBlock ∧ some k_ ≠ ((.slice Ao56 t596.length co56) : Value).ownBlock ∧ some k_ ≠ ((.slice Ao48 y590.length co48) : Value).ownBlock ∧ k_ ≠ gb567 ∧ k_ ≠ gb573) (.slice A0_2 l0_2.length c0_2) l0_2) ∧ Aside0 (Kd.V (Kd.slice 9 Kd.string) 22 w' w.heap.size (fun k_ => ((P0_1_ k_ ∨ P0_2_ k_ ∨ P0_3_ k_) ∨ w.heap.size ≤ k_) ∧ some k_ ≠ ((.slice Ao55 t593.length co55) : Value).ownBlock ∧ some k_ ≠ ((.slice Ao56 t596.length co56) : Value).ownBlock ∧ some k_ ≠ ((.slice Ao48 y590.length co48) : Value).ownBlock ∧ k_ ≠ gb567 ∧ k_ ≠ gb573) (.slice A0_3 l0_3.length c0_3) l0_3) ∧ Aside0 (Kd.V Kd.string 9 w' w.heap.size (fun k_ => ((P0_1_ k_ ∨ P0_2_ k_ ∨ P0_3_ k_) ∨ w.heap.size ≤ k_) ∧ some k_ ≠ ((.slice Ao55 t593.length co55) : Value).ownBlock ∧ some k_ ≠ ((.slice Ao56 t596.length co56) : Value).ownBlock ∧ some k_ ≠ ((.slice Ao48 y590.length co48) : Value).ownBlock ∧ k_ ≠ gb567 ∧ k_ ≠ gb573) (.slice A0_1 l0_1.length c0_1) l0_1) ∧ Aside0 (Kd.V Kd.string 9 w' w.heap.size (fun k_ => ((P0_1_ k_ ∨ P0_2_ k_ ∨ P0_3_ k_) ∨ w.heap.size ≤ k_) ∧ some k_ ≠ ((.slice Ao55 t593.length co55) : Value).ownBlock ∧ some k_ ≠ ((.slice Ao56 t596.length co56) : Value).ownBlock ∧ some k_ ≠ ((.slice Ao48 y590.length co48) : Value).ownBlock ∧ k_ ≠ gb567 ∧ k_ ≠ gb573) (.slice A0_2 l0_2.length c0_2) l0_2) ∧ Aside0 (Kd.N (Kd.slice 9 Kd.string) 22 w' w.heap.size (fun k_ => ((P0_1_ k_ ∨ P0_2_ k_ ∨ P0_3_ k_) ∨ w.heap.size ≤ k_) ∧ some k_ ≠ ((.slice Ao55 t593.length co55) : Value).ownBlock ∧ some k_ ≠ ((.slice Ao56 t596.length co56) : Value).ownBlock ∧ k_ ≠ gb567 ∧ k_ ≠ gb573) (.slice Ao48 y590.length co48) y590) ∧ Aside0 (w'.heap[gb567]? = some (.cells #[.bool a0_0, (.slice A0_1 l0_1.length c0_1), (.slice A0_2 l0_2.length c0_2), (.slice A0_3 l0_3.length c0_3)] 27 (0, 0))) ∧ Aside0 (w'.heap[gb573]? = some (.cells #[.bool a0_0, (.slice A0_1 l0_1.length c0_1), (.slice A0_2 l0_2.length c0_2), (.slice Ao48 y590.length co48)] 27 (0, 0))) ∧ Aside0 (Below w.heap.size w w'))
                case atStart => exact ⟨(0), (by first | rfl | (simp; done) | (simp [*]; done)), H', ⟨Nat.le_refl _⟩, ⟨by (with_reducible repeat (first | apply nA | apply nN | apply nD)); exact HO_8.out⟩, ⟨by (with_reducible repeat (first | apply nA | apply nN | apply nD)); exact HO_9.out⟩, ⟨by (with_reducible repeat (first | apply vA | apply vN | apply vD)); exact HO_568001.out⟩, ⟨by (with_reducible repeat (first | apply vA | apply vN | apply vD)); exact HO_568002.out⟩, ⟨by (with_reducible repeat (first | apply vA | apply vN | apply vD)); exact HO_568003.out⟩, ⟨by (with_reducible repeat (first | apply vA | apply vN | apply vD)); exact HO_574001.out⟩, ⟨by (with_reducible repeat (first | apply vA | apply vN | apply vD)); exact HO_574002.out⟩, ⟨by (with_reducible repeat (first | apply nA | apply nN | apply nD)); exact HO_574003.out⟩, ⟨by (with_reducible repeat (first | refine blk_drewN ?_ _ | refine blk_drew ?_ | refine blk_alloc ?_ _)); exact BK567.out⟩, ⟨by (with_reducible repeat (first | refine blk_drewN ?_ _ | refine blk_drew ?_ | refine blk_alloc ?_ _)); exact BK573.out⟩, ⟨by repeat (first | (with_reducible first | exact HB.out | apply below_alloc | apply pw_below_drewN | apply below_drew1 | refine below_set ?_ GE567.out | refine below_set ?_ GE573.out) | exact HB.out)⟩⟩
                case round =>
                 clear H'
                 (try clear c2); (try clear p2); (try clear c5); (try clear c6); (try clear p6); (try clear q6); (try clear hx6); (try clear c24); (try clear c59); (try clear c60); (try clear p60); (try clear q60); (try clear hx60); (try clear c64); (try clear c67); (try clear hx604_0); (try clear hx604_1); (try clear hx604_2); (try clear hx604_3); (try clear hx605_0); (try clear hx605_1); (try clear hx605_2); (try clear hx605_3); (try clear hx606_0); (try clear hx606_1); (try clear hx606_2); (try clear hx606_3); (try clear hx607_0); (try clear hx607_1); (try clear hx607_2); (try clear hx607_3); (try clear p2); (try clear p6); (try clear p60); (try clear p604); (try clear p605); (try clear p606); (try clear p607); (try clear q6); (try clear q60); (try clear q604); (try clear q605); (try clear q606); (try clear q607)
                 obtain ⟨x11_4, rfl, HA, HK4, HO_8, HO_9, HO_568001, HO_568002, HO_568003, HO_574001, HO_574002, HO_574003, BK567, BK573, HB⟩ := hrel
                 cases gk with
                 | zero => exact absurd HA.out (by simp [sennitlaw10_ZealTurn.l1])
                 | succ k4 =>
                  have H := HA.out
                  clear HA
                  simp only [sennitlaw10_ZealTurn.l1] at H
                  by_cases c68 : 0 ≤ x10_2
                  ·rw [if_pos c68] at H
                   have c68b0 : decide (0 ≤ x10_2) = true := decide_eq_true c68
                   clear c68
                   by_cases c69 : x10_2 < (t593.length : Int)
                   ·rw [if_pos c69] at H
                    have c69b0 : decide (x10_2 < (t593.length : Int)) = true := decide_eq_true c69
                    clear c69
                    by_cases c70 : x11_4 < (((rd_T27 t593 x10_2).f3).length : Int)
                    ·rw [if_pos c70] at H
                     have c70b0 : decide (x11_4 < (((rd_T27 t593 x10_2).f3).length : Int)) = true := decide_eq_true c70
                     clear c70
                     by_cases c71 : x10_2 < (t596.length : Int)
                     ·rw [if_pos c71] at H
                      have c71b0 : decide (x10_2 < (t596.length : Int)) = true := decide_eq_true c71
                      clear c71
                      by_cases c72 : 0 ≤ x11_4
                      ·rw [if_pos c72] at H
                       have c72b0 : decide (0 ≤ x11_4) = true := decide_eq_true c72
                       clear c72
                       by_cases c73 : x11_4 < (((rd_T27 t596 x10_2).f3).length : Int)
                       ·rw [if_pos c73] at H
                        have c73b0 : decide (x11_4 < (((rd_T27 t596 x10_2).f3).length : Int)) = true := decide_eq_true c73
                        clear c73
                        by_cases c74 : (((rd_T27 t593 x10_2).f3).length : Int) = 0
                        ·rw [if_pos c74] at H
                         exact absurd H (by simp)
                        ·rw [if_neg c74] at H
                         have c74b0 : ((((rd_T27 t593 x10_2).f3).length : Int) == 0) = false := beq_eq_false_iff_ne.mpr c74
                         have c74b1 : ((((rd_T27 t593 x10_2).f3).length : Int) != 0) = true := bne_iff_ne.mpr c74
                         have c74b2 : ¬ (((rd_T27 t593 x10_2).f3) = []) := fun h_ => c74 (by rw [h_]; rfl)
                         obtain ⟨ji75, hji75⟩ : ∃ j_ : Int, (Int.tmod (wrap64 (x11_4 + ji26)) (((rd_T27 t593 x10_2).f3).length : Int)) = j_ := ⟨_, rfl⟩
                         replace H : (if 0 ≤ (ji75) then (if (ji75) < (((rd_T27 t593 x10_2).f3).length : Int) then ((sennitref01_Same.f k4 (rd_L1 ((rd_T27 t596 x10_2).f3) x11_4) (rd_L1 ((rd_T27 t593 x10_2).f3) (ji75))).bind fun t617 => (if t617 = true then (sennitlaw10_ZealTurn.l1 k4 t568 ji26 t593 t596 x10_2 (wrap64 (x11_4 + 1)) a0_0 l0_1 l0_2 l0_3) else (none))) else (none)) else (none)) = some r := by first | (rw [hji75] at H; exact H) | (simp only [hji75] at H ⊢; exact H)
                         by_cases c76 : 0 ≤ (ji75)
                         ·rw [if_pos c76] at H
                          have c76b0 : decide (0 ≤ (ji75)) = true := decide_eq_true c76
                          clear c76
                          by_cases c77 : (ji75) < (((rd_T27 t593 x10_2).f3).length : Int)
                          ·rw [if_pos c77] at H
                           have c77b0 : decide ((ji75) < (((rd_T27 t593 x10_2).f3).length : Int)) = true := decide_eq_true c77
                           clear c77
                           replace H := Option.bind_eq_some_iff.mp H
                           obtain ⟨t617, A780, H⟩ := H
                           replace H : (if t617 = true then (sennitlaw10_ZealTurn.l1 k4 t568 ji26 t593 t596 x10_2 (wrap64 (x11_4 + 1)) a0_0 l0_1 l0_2 l0_3) else (none)) = some r := H
                           have A78 := am A780
                           clear A780
                           by_cases c79 : t617 = true
                           ·subst c79
                            have H1 : (sennitlaw10_ZealTurn.l1 k4 t568 ji26 t593 t596 x10_2 (wrap64 (x11_4 + 1)) a0_0 l0_1 l0_2 l0_3) = some r := by rw [if_pos rfl] at H; exact H
                            clear H
                            have H := H1
                            clear H1
                            have H' := am H
                            clear H
                            have p611 : 0 ≤ (x10_2 : Int) := of_decide_eq_true (by first | (with_reducible assumption) | assumption)
                            have q611 : x10_2 < (t593.length : Int) := of_decide_eq_true (by first | (with_reducible assumption) | assumption)
                            obtain ⟨ad611, A611_1, c611_1, A611_2, c611_2, A611_3, c611_3, e611, hx611_0, hx611_1, hx611_2, hx611_3, hl611_1, hi611_1, hl611_2, hi611_2, hl611_3, hi611_3⟩ := at_T27 (Kd.N_reads' HO_8.out).2.2 x10_2 p611 q611
                            cases e611
                            obtain ⟨ce611, hce611, hMe611, hcc611⟩ := Kd.N_get HO_8.out z27 x10_2 p611 (by first | exact q611 | exact of_decide_eq_true (by first | (with_reducible assumption) | assumption) | (have e_ := (Kd.N_reads' HO_8.out).1; omega))
                            obtain ⟨ua611_1, uc611_1, ua611_2, uc611_2, ua611_3, uc611_3, rfl, ul611_1, ge611_1, ul611_2, ge611_2, ul611_3, ge611_3⟩ := k27_openF hMe611
                            have hv611_1 := hcc611 1 _ rfl
                            rw [add_field _ _ 1 (by omega)] at hv611_1
                            replace hv611_1 := Option.some.inj (hv611_1.symm.trans hx611_1)
                            injection hv611_1 with hva_ hvn_ hvc_
                            rw [hva_] at ge611_1
                            rw [hvc_] at ul611_1
                            have HL611_1 := am (show Kd.V Kd.string 9 _ w.heap.size _ _ ((rd_T27 t593 x10_2).f1) from Kd.V_mk ul611_1 ge611_1)
                            clear hva_ hvn_ hvc_ ge611_1 ul611_1
                            have hv611_2 := hcc611 2 _ rfl
                            rw [add_field _ _ 2 (by omega)] at hv611_2
                            replace hv611_2 := Option.some.inj (hv611_2.symm.trans hx611_2)
                            injection hv611_2 with hva_ hvn_ hvc_
                            rw [hva_] at ge611_2
                            rw [hvc_] at ul611_2
                            have HL611_2 := am (show Kd.V Kd.string 9 _ w.heap.size _ _ ((rd_T27 t593 x10_2).f2) from Kd.V_mk ul611_2 ge611_2)
                            clear hva_ hvn_ hvc_ ge611_2 ul611_2
                            have hv611_3 := hcc611 3 _ rfl
                            rw [add_field _ _ 3 (by omega)] at hv611_3
                            replace hv611_3 := Option.some.inj (hv611_3.symm.trans hx611_3)
                            injection hv611_3 with hva_ hvn_ hvc_
                            rw [hva_] at ge611_3
                            rw [hvc_] at ul611_3
                            have HL611_3 := am (show Kd.V (Kd.slice 9 Kd.string) 22 _ w.heap.size _ _ ((rd_T27 t593 x10_2).f3) from Kd.V_mk ul611_3 ge611_3)
                            clear hva_ hvn_ hvc_ ge611_3 ul611_3
                            clear hcc611 hce611
                            have HR611_1 := am hi611_1
                            have HC611_1 := am hl611_1
                            clear hi611_1 hl611_1
                            have HR611_2 := am hi611_2
                            have HC611_2 := am hl611_2
                            clear hi611_2 hl611_2
                            have HR611_3 := am hi611_3
                            have HC611_3 := am hl611_3
                            clear hi611_3 hl611_3
                            replace p611 := eq_true p611
                            replace q611 := eq_true q611
                            try go_wp2
                            have n0_ := am (Kd.N_drew HO_8.out)
                            have n1_ := am (Kd.N_drew HO_9.out)
                            have n2_ := am (Kd.V_drew HO_568001.out)
                            have n3_ := am (Kd.V_drew HO_568002.out)
                            have n4_ := am (Kd.V_drew HO_568003.out)
                            have n5_ := am (Kd.V_drew HO_574001.out)
                            have n6_ := am (Kd.V_drew HO_574002.out)
                            have n7_ := am (Kd.N_drew HO_574003.out)
                            have n8_ := am (Kd.V_drew HL611_1.out)
                            have n9_ := am (Kd.V_drew HL611_2.out)
                            have n10_ := am (Kd.V_drew HL611_3.out)
                            have n11_ := am (blk_drew BK567.out)
                            have n12_ := am (blk_drew BK573.out)
                            have n13_ := am (Kd.C_drew HR611_1.out)
                            have n14_ := am (Kd.C_drew HR611_2.out)
                            have n15_ := am (Kd.C_drew HR611_3.out)
                            have n16_ := am (below_drew1 HB.out)
                            clear HO_8
                            clear HO_9
                            clear HO_568001
                            clear HO_568002
                            clear HO_568003
                            clear HO_574001
                            clear HO_574002
                            clear HO_574003
                            clear HL611_1
                            clear HL611_2
                            clear HL611_3
                            clear BK567
                            clear BK573
                            clear HR611_1
                            clear HR611_2
                            clear HR611_3
                            clear HB
                            have HO_8 := n0_
                            have HO_9 := n1_
                            have HO_568001 := n2_
                            have HO_568002 := n3_
                            have HO_568003 := n4_
                            have HO_574001 := n5_
                            have HO_574002 := n6_
                            have HO_574003 := n7_
                            have HL611_1 := n8_
                            have HL611_2 := n9_
                            have HL611_3 := n10_
                            have BK567 := n11_
                            have BK573 := n12_
                            have HR611_1 := n13_
                            have HR611_2 := n14_
                            have HR611_3 := n15_
                            have HB := n16_
                            clear n0_ n1_ n2_ n3_ n4_ n5_ n6_ n7_ n8_ n9_ n10_ n11_ n12_ n13_ n14_ n15_ n16_
                            have p612 : 0 ≤ (x10_2 : Int) := of_decide_eq_true (by first | (with_reducible assumption) | assumption)
                            have q612 : x10_2 < (t596.length : Int) := of_decide_eq_true (by first | (with_reducible assumption) | assumption)
                            obtain ⟨ad612, A612_1, c612_1, A612_2, c612_2, A612_3, c612_3, e612, hx612_0, hx612_1, hx612_2, hx612_3, hl612_1, hi612_1, hl612_2, hi612_2, hl612_3, hi612_3⟩ := at_T27 (Kd.N_reads' HO_9.out).2.2 x10_2 p612 q612
                            cases e612
                            obtain ⟨ce612, hce612, hMe612, hcc612⟩ := Kd.N_get HO_9.out z27 x10_2 p612 (by first | exact q612 | exact of_decide_eq_true (by first | (with_reducible assumption) | assumption) | (have e_ := (Kd.N_reads' HO_9.out).1; omega))
                            obtain ⟨ua612_1, uc612_1, ua612_2, uc612_2, ua612_3, uc612_3, rfl, ul612_1, ge612_1, ul612_2, ge612_2, ul612_3, ge612_3⟩ := k27_openF hMe612
                            have hv612_1 := hcc612 1 _ rfl
                            rw [add_field _ _ 1 (by omega)] at hv612_1
                            replace hv612_1 := Option.some.inj (hv612_1.symm.trans hx612_1)
                            injection hv612_1 with hva_ hvn_ hvc_
                            rw [hva_] at ge612_1
                            rw [hvc_] at ul612_1
                            have HL612_1 := am (show Kd.V Kd.string 9 _ w.heap.size _ _ ((rd_T27 t596 x10_2).f1) from Kd.V_mk ul612_1 ge612_1)
                            clear hva_ hvn_ hvc_ ge612_1 ul612_1
                            have hv612_2 := hcc612 2 _ rfl
                            rw [add_field _ _ 2 (by omega)] at hv612_2
                            replace hv612_2 := Option.some.inj (hv612_2.symm.trans hx612_2)
                            injection hv612_2 with hva_ hvn_ hvc_
                            rw [hva_] at ge612_2
                            rw [hvc_] at ul612_2
                            have HL612_2 := am (show Kd.V Kd.string 9 _ w.heap.size _ _ ((rd_T27 t596 x10_2).f2) from Kd.V_mk ul612_2 ge612_2)
                            clear hva_ hvn_ hvc_ ge612_2 ul612_2
                            have hv612_3 := hcc612 3 _ rfl
                            rw [add_field _ _ 3 (by omega)] at hv612_3
                            replace hv612_3 := Option.some.inj (hv612_3.symm.trans hx612_3)
                            injection hv612_3 with hva_ hvn_ hvc_
                            rw [hva_] at ge612_3
                            rw [hvc_] at ul612_3
                            have HL612_3 := am (show Kd.V (Kd.slice 9 Kd.string) 22 _ w.heap.size _ _ ((rd_T27 t596 x10_2).f3) from Kd.V_mk ul612_3 ge612_3)
                            clear hva_ hvn_ hvc_ ge612_3 ul612_3
                            clear hcc612 hce612
                            have HR612_1 := am hi612_1
                            have HC612_1 := am hl612_1
                            clear hi612_1 hl612_1
                            have HR612_2 := am hi612_2
                            have HC612_2 := am hl612_2
                            clear hi612_2 hl612_2
                            have HR612_3 := am hi612_3
                            have HC612_3 := am hl612_3
                            clear hi612_3 hl612_3
                            replace p612 := eq_true p612
                            replace q612 := eq_true q612
                            have p613 : 0 ≤ (x11_4 : Int) := of_decide_eq_true (by first | (with_reducible assumption) | assumption)
                            have q613 : x11_4 < (((rd_T27 t596 x10_2).f3).length : Int) := of_decide_eq_true (by first | (with_reducible assumption) | assumption)
                            obtain ⟨ad613, A613_0, c613_0, e613, hx613_0, hl613_0, hi613_0⟩ := at_L1 (by repeat (first | (with_reducible exact HR612_3.out) | (with_reducible refine Kd.C_alloc ?_ _) | (with_reducible refine Kd.C_drewN ?_ _) | (with_reducible refine Kd.C_drew ?_) | exact HR612_3.out)) x11_4 p613 q613
                            cases e613
                            obtain ⟨ce613, hce613, hMe613, hcc613⟩ := Kd.V_get HL612_3.out [] x11_4 p613 (by first | exact q613 | exact of_decide_eq_true (by first | (with_reducible assumption) | assumption) | (have e_ := (Kd.V_reads' HL612_3.out).1; omega))
                            obtain ⟨ua613_0, uc613_0, rfl, ul613_0, ge613_0⟩ := Kd.FK_slice_open hMe613
                            have hv613_0 := hcc613 0 _ rfl
                            rw [Nat.add_zero, show ((Kd.slice 9 Kd.string)).sz = 1 from rfl, Nat.mul_one] at hv613_0
                            replace hv613_0 := Option.some.inj (hv613_0.symm.trans hx613_0)
                            injection hv613_0 with hva_ hvn_ hvc_
                            rw [hva_] at ge613_0
                            rw [hvc_] at ul613_0
                            have HL613_0 := am (show Kd.V Kd.string 9 _ w.heap.size _ _ (rd_L1 ((rd_T27 t596 x10_2).f3) x11_4) from Kd.V_mk ul613_0 ge613_0)
                            clear hva_ hvn_ hvc_ ge613_0 ul613_0
                            clear hcc613 hce613
                            have HR613_0 := am hi613_0
                            have HC613_0 := am hl613_0
                            clear hi613_0 hl613_0
                            replace p613 := eq_true p613
                            replace q613 := eq_true q613
                            have p614 : 0 ≤ (x10_2 : Int) := of_decide_eq_true (by first | (with_reducible assumption) | assumption)
                            have q614 : x10_2 < (t593.length : Int) := of_decide_eq_true (by first | (with_reducible assumption) | assumption)
                            obtain ⟨ad614, A614_1, c614_1, A614_2, c614_2, A614_3, c614_3, e614, hx614_0, hx614_1, hx614_2, hx614_3, hl614_1, hi614_1, hl614_2, hi614_2, hl614_3, hi614_3⟩ := at_T27 (Kd.N_reads' HO_8.out).2.2 x10_2 p614 q614
                            obtain rfl : ad611 = ad614 := (by injection e614)
                            obtain ⟨ce614, hce614, hMe614, hcc614⟩ := Kd.N_get HO_8.out z27 x10_2 p614 (by first | exact q614 | exact of_decide_eq_true (by first | (with_reducible assumption) | assumption) | (have e_ := (Kd.N_reads' HO_8.out).1; omega))
                            obtain ⟨ua614_1, uc614_1, ua614_2, uc614_2, ua614_3, uc614_3, rfl, ul614_1, ge614_1, ul614_2, ge614_2, ul614_3, ge614_3⟩ := k27_openF hMe614
                            have hv614_1 := hcc614 1 _ rfl
                            rw [add_field _ _ 1 (by omega)] at hv614_1
                            replace hv614_1 := Option.some.inj (hv614_1.symm.trans hx614_1)
                            injection hv614_1 with hva_ hvn_ hvc_
                            rw [hva_] at ge614_1
                            rw [hvc_] at ul614_1
                            have HL614_1 := am (show Kd.V Kd.string 9 _ w.heap.size _ _ ((rd_T27 t593 x10_2).f1) from Kd.V_mk ul614_1 ge614_1)
                            clear hva_ hvn_ hvc_ ge614_1 ul614_1
                            have hv614_2 := hcc614 2 _ rfl
                            rw [add_field _ _ 2 (by omega)] at hv614_2
                            replace hv614_2 := Option.some.inj (hv614_2.symm.trans hx614_2)
                            injection hv614_2 with hva_ hvn_ hvc_
                            rw [hva_] at ge614_2
                            rw [hvc_] at ul614_2
                            have HL614_2 := am (show Kd.V Kd.string 9 _ w.heap.size _ _ ((rd_T27 t593 x10_2).f2) from Kd.V_mk ul614_2 ge614_2)
                            clear hva_ hvn_ hvc_ ge614_2 ul614_2
                            have hv614_3 := hcc614 3 _ rfl
                            rw [add_field _ _ 3 (by omega)] at hv614_3
                            replace hv614_3 := Option.some.inj (hv614_3.symm.trans hx614_3)
                            injection hv614_3 with hva_ hvn_ hvc_
                            rw [hva_] at ge614_3
                            rw [hvc_] at ul614_3
                            have HL614_3 := am (show Kd.V (Kd.slice 9 Kd.string) 22 _ w.heap.size _ _ ((rd_T27 t593 x10_2).f3) from Kd.V_mk ul614_3 ge614_3)
                            clear hva_ hvn_ hvc_ ge614_3 ul614_3
                            clear hcc614 hce614
                            have HR614_1 := am hi614_1
                            have HC614_1 := am hl614_1
                            clear hi614_1 hl614_1
                            have HR614_2 := am hi614_2
                            have HC614_2 := am hl614_2
                            clear hi614_2 hl614_2
                            have HR614_3 := am hi614_3
                            have HC614_3 := am hl614_3
                            clear hi614_3 hl614_3
                            replace p614 := eq_true p614
                            replace q614 := eq_true q614
                            have p615 : 0 ≤ (x10_2 : Int) := of_decide_eq_true (by first | (with_reducible assumption) | assumption)
                            have q615 : x10_2 < (t593.length : Int) := of_decide_eq_true (by first | (with_reducible assumption) | assumption)
                            obtain ⟨ad615, A615_1, c615_1, A615_2, c615_2, A615_3, c615_3, e615, hx615_0, hx615_1, hx615_2, hx615_3, hl615_1, hi615_1, hl615_2, hi615_2, hl615_3, hi615_3⟩ := at_T27 (Kd.N_reads' HO_8.out).2.2 x10_2 p615 q615
                            obtain rfl : ad611 = ad615 := (by injection e615)
                            obtain ⟨ce615, hce615, hMe615, hcc615⟩ := Kd.N_get HO_8.out z27 x10_2 p615 (by first | exact q615 | exact of_decide_eq_true (by first | (with_reducible assumption) | assumption) | (have e_ := (Kd.N_reads' HO_8.out).1; omega))
                            obtain ⟨ua615_1, uc615_1, ua615_2, uc615_2, ua615_3, uc615_3, rfl, ul615_1, ge615_1, ul615_2, ge615_2, ul615_3, ge615_3⟩ := k27_openF hMe615
                            have hv615_1 := hcc615 1 _ rfl
                            rw [add_field _ _ 1 (by omega)] at hv615_1
                            replace hv615_1 := Option.some.inj (hv615_1.symm.trans hx615_1)
                            injection hv615_1 with hva_ hvn_ hvc_
                            rw [hva_] at ge615_1
                            rw [hvc_] at ul615_1
                            have HL615_1 := am (show Kd.V Kd.string 9 _ w.heap.size _ _ ((rd_T27 t593 x10_2).f1) from Kd.V_mk ul615_1 ge615_1)
                            clear hva_ hvn_ hvc_ ge615_1 ul615_1
                            have hv615_2 := hcc615 2 _ rfl
                            rw [add_field _ _ 2 (by omega)] at hv615_2
                            replace hv615_2 := Option.some.inj (hv615_2.symm.trans hx615_2)
                            injection hv615_2 with hva_ hvn_ hvc_
                            rw [hva_] at ge615_2
                            rw [hvc_] at ul615_2
                            have HL615_2 := am (show Kd.V Kd.string 9 _ w.heap.size _ _ ((rd_T27 t593 x10_2).f2) from Kd.V_mk ul615_2 ge615_2)
                            clear hva_ hvn_ hvc_ ge615_2 ul615_2
                            have hv615_3 := hcc615 3 _ rfl
                            rw [add_field _ _ 3 (by omega)] at hv615_3
                            replace hv615_3 := Option.some.inj (hv615_3.symm.trans hx615_3)
                            injection hv615_3 with hva_ hvn_ hvc_
                            rw [hva_] at ge615_3
                            rw [hvc_] at ul615_3
                            have HL615_3 := am (show Kd.V (Kd.slice 9 Kd.string) 22 _ w.heap.size _ _ ((rd_T27 t593 x10_2).f3) from Kd.V_mk ul615_3 ge615_3)
                            clear hva_ hvn_ hvc_ ge615_3 ul615_3
                            clear hcc615 hce615
                            have HR615_1 := am hi615_1
                            have HC615_1 := am hl615_1
                            clear hi615_1 hl615_1
                            have HR615_2 := am hi615_2
                            have HC615_2 := am hl615_2
                            clear hi615_2 hl615_2
                            have HR615_3 := am hi615_3
                            have HC615_3 := am hl615_3
                            clear hi615_3 hl615_3
                            replace p615 := eq_true p615
                            replace q615 := eq_true q615
                            have ea_ := Option.some.inj (hx614_1.symm.trans hx615_1)
                            injection ea_ with ea_ en_ ec_
                            subst ea_
                            subst ec_
                            clear en_
                            have ea_ := Option.some.inj (hx614_2.symm.trans hx615_2)
                            injection ea_ with ea_ en_ ec_
                            subst ea_
                            subst ec_
                            clear en_
                            have ea_ := Option.some.inj (hx614_3.symm.trans hx615_3)
                            injection ea_ with ea_ en_ ec_
                            subst ea_
                            subst ec_
                            clear en_
                            have p616 : 0 ≤ ((ji75) : Int) := of_decide_eq_true (by first | (with_reducible assumption) | assumption)
                            have q616 : (ji75) < (((rd_T27 t593 x10_2).f3).length : Int) := of_decide_eq_true (by first | (with_reducible assumption) | assumption)
                            obtain ⟨ad616, A616_0, c616_0, e616, hx616_0, hl616_0, hi616_0⟩ := at_L1 (by repeat (first | (with_reducible exact HR614_3.out) | (with_reducible refine Kd.C_alloc ?_ _) | (with_reducible refine Kd.C_drewN ?_ _) | (with_reducible refine Kd.C_drew ?_) | exact HR614_3.out)) (ji75) p616 q616
                            cases e616
                            obtain ⟨ce616, hce616, hMe616, hcc616⟩ := Kd.V_get HL614_3.out [] (ji75) p616 (by first | exact q616 | exact of_decide_eq_true (by first | (with_reducible assumption) | assumption) | (have e_ := (Kd.V_reads' HL614_3.out).1; omega))
                            obtain ⟨ua616_0, uc616_0, rfl, ul616_0, ge616_0⟩ := Kd.FK_slice_open hMe616
                            have hv616_0 := hcc616 0 _ rfl
                            rw [Nat.add_zero, show ((Kd.slice 9 Kd.string)).sz = 1 from rfl, Nat.mul_one] at hv616_0
                            replace hv616_0 := Option.some.inj (hv616_0.symm.trans hx616_0)
                            injection hv616_0 with hva_ hvn_ hvc_
                            rw [hva_] at ge616_0
                            rw [hvc_] at ul616_0
                            have HL616_0 := am (show Kd.V Kd.string 9 _ w.heap.size _ _ (rd_L1 ((rd_T27 t593 x10_2).f3) (ji75)) from Kd.V_mk ul616_0 ge616_0)
                            clear hva_ hvn_ hvc_ ge616_0 ul616_0
                            clear hcc616 hce616
                            have HR616_0 := am hi616_0
                            have HC616_0 := am hl616_0
                            clear hi616_0 hl616_0
                            replace p616 := eq_true p616
                            replace q616 := eq_true q616
                            refine start_ (n := 27) (S := fun w' => w'.cell? (ad612.add ((x10_2).toNat * 4)) = some (.bool ((rd_T27 t596 x10_2).f0)) ∧ w'.cell? ⟨(ad612.add ((x10_2).toNat * 4)).block, (ad612.add ((x10_2).toNat * 4)).off + 1, none⟩ = some (.slice A612_1 ((rd_T27 t596 x10_2).f1).length c612_1) ∧ w'.cell? ⟨(ad612.add ((x10_2).toNat * 4)).block, (ad612.add ((x10_2).toNat * 4)).off + 2, none⟩ = some (.slice A612_2 ((rd_T27 t596 x10_2).f2).length c612_2) ∧ w'.cell? ⟨(ad612.add ((x10_2).toNat * 4)).block, (ad612.add ((x10_2).toNat * 4)).off + 3, none⟩ = some (.slice (some ad613) ((rd_T27 t596 x10_2).f3).length c612_3) ∧ w'.cell? (ad613.add (x11_4).toNat) = some (.slice A613_0 (rd_L1 ((rd_T27 t596 x10_2).f3) x11_4).length c613_0) ∧ w'.cell? (ad611.add ((x10_2).toNat * 4)) = some (.bool ((rd_T27 t593 x10_2).f0)) ∧ w'.cell? ⟨(ad611.add ((x10_2).toNat * 4)).block, (ad611.add ((x10_2).toNat * 4)).off + 1, none⟩ = some (.slice A614_1 ((rd_T27 t593 x10_2).f1).length c614_1) ∧ w'.cell? ⟨(ad611.add ((x10_2).toNat * 4)).block, (ad611.add ((x10_2).toNat * 4)).off + 2, none⟩ = some (.slice A614_2 ((rd_T27 t593 x10_2).f2).length c614_2) ∧ w'.cell? ⟨(ad611.add ((x10_2).toNat * 4)).block, (ad611.add ((x10_2).toNat * 4)).off + 3, none⟩ = some (.slice (some ad616) ((rd_T27 t593 x10_2).f3).length c614_3) ∧ w'.cell? (ad611.add ((x10_2).toNat * 4)) = some (.bool ((rd_T27 t593 x10_2).f0)) ∧ w'.cell? ⟨(ad611.add ((x10_2).toNat * 4)).block, (ad611.add ((x10_2).toNat * 4)).off + 1, none⟩ = some (.slice A614_1 ((rd_T27 t593 x10_2).f1).length c614_1) ∧ w'.cell? ⟨(ad611.add ((x10_2).toNat * 4)).block, (ad611.add ((x10_2).toNat * 4)).off + 2, none⟩ = some (.slice A614_2 ((rd_T27 t593 x10_2).f2).length c614_2) ∧ w'.cell? ⟨(ad611.add ((x10_2).toNat * 4)).block, (ad611.add ((x10_2).toNat * 4)).off + 3, none⟩ = some (.slice (some ad616) ((rd_T27 t593 x10_2).f3).length c614_3) ∧ w'.cell? (ad616.add ((ji75)).toNat) = some (.slice A616_0 (rd_L1 ((rd_T27 t593 x10_2).f3) (ji75)).length c616_0)) (ds := []) #[false, false, false, false, false, false, false, false, false, false, false, false, false, false, false, false, false, false, false, false, false, false, false, false, false, false, false] (by kernel_rfl) rfl rfl ⟨hx612_0, hx612_1, hx612_2, hx612_3, hx613_0, hx614_0, hx614_1, hx614_2, hx614_3, hx615_0, hx615_1, hx615_2, hx615_3, hx616_0⟩ (fun hHeld => ?_); refine with_tabW sennitlaw10_ZealTurn.tab19 sennitlaw10_ZealTurn.bits19 (fun HT_ HW_ => ?_)
                            generalize wr.drew = w80 at HO_8 HO_9 HO_568001 HO_568002 HO_568003 HO_574001 HO_574002 HO_574003 HL611_1 HL611_2 HL611_3 BK567 BK573 HR611_1 HR611_2 HR611_3 HB HL612_1 HL612_2 HL612_3 HL613_0 HL614_1 HL614_2 HL614_3 HL615_1 HL615_2 HL615_3 HL616_0 HR612_1 HR612_2 HR612_3 HR613_0 HR614_1 HR614_2 HR614_3 HR615_1 HR615_2 HR615_3 HR616_0 hx612_0 hx612_1 hx612_2 hx612_3 hx613_0 hx614_0 hx614_1 hx614_2 hx614_3 hx615_0 hx615_1 hx615_2 hx615_3 hx616_0 hHeld ⊢
                            refine pN HT_.out 0 113 ?_
                            refine pN HT_.out 1 114 ?_
                            refine pN HT_.out 2 115 ?_
                            refine pN HT_.out 3 116 ?_
                            refine pN HT_.out 5 118 ?_
                            refine pN HT_.out 8 121 ?_
                            refine pN HT_.out 9 122 ?_
                            refine pN HT_.out 10 123 ?_
                            refine pN HT_.out 11 124 ?_
                            refine pN HT_.out 13 126 ?_
                            refine pN HT_.out 14 127 ?_
                            refine pN HT_.out 15 128 ?_
                            refine pN HT_.out 16 129 ?_
                            refine pN HT_.out 17 130 ?_
                            refine pN HT_.out 18 131 ?_
                            refine pN HT_.out 19 132 ?_
                            refine take_ (i := 4) (N := some 117) (v := ?_) (a' := ?_) #[true, true, true, true, true, true, false, false, true, true, true, true, false, true, true, true, true, true, true, true, false, false, false, false, false, false, false] rfl rfl (take_ofW HT_.out HW_.out (by kernel_rfl)) (fun _ _ _ h => h) (Or.inl ⟨by rfl, ?_⟩) hHeld ?_ ?_
                            rotate_left
                            ·rintro w' ⟨s0, s1, s2, s3, s4, s5, s6, s7, s8, s9, s10, s11, s12, s13⟩
                             go_simp
                             with_reducible rfl
                            rotate_left
                            ·simp only [Act.put, List.setIfInBounds_toArray, List.set_cons_zero, List.set_cons_succ, i64_w, i32_w]
                             rfl
                            refine pN HT_.out 6 119 ?_
                            refine take_ (i := 7) (N := some 120) (v := ?_) (a' := ?_) #[true, true, true, true, true, true, true, true, true, true, true, true, false, true, true, true, true, true, true, true, false, false, false, false, false, false, false] rfl rfl (take_ofW HT_.out HW_.out (by kernel_rfl)) (fun _ _ _ h => h) (Or.inl ⟨by rfl, ?_⟩) hHeld ?_ ?_
                            rotate_left
                            ·rintro w' ⟨s0, s1, s2, s3, s4, s5, s6, s7, s8, s9, s10, s11, s12, s13⟩
                             go_simp
                             with_reducible rfl
                            rotate_left
                            ·simp only [Act.put, List.setIfInBounds_toArray, List.set_cons_zero, List.set_cons_succ, i64_w, i32_w]
                             rfl
                            refine take_ (i := 12) (N := some 125) (v := ?_) (a' := ?_) #[true, true, true, true, true, true, true, true, true, true, true, true, true, true, true, true, true, true, true, true, false, false, false, false, false, false, false] rfl rfl (take_ofW HT_.out HW_.out (by kernel_rfl)) (fun _ _ _ h => h) (Or.inl ⟨by rfl, ?_⟩) hHeld ?_ ?_
                            rotate_left
                            ·rintro w' ⟨s0, s1, s2, s3, s4, s5, s6, s7, s8, s9, s10, s11, s12, s13⟩
                             go_simp
                             with_reducible rfl
                            rotate_left
                            ·simp only [Act.put, List.setIfInBounds_toArray, List.set_cons_zero, List.set_cons_succ, i64_w, i32_w]
                             rfl
                            refine take_ (i := 20) (N := some 133) (v := ?_) (a' := ?_) #[true, true, true, true, true, true, true, true, true, true, true, true, true, true, true, true, true, true, true, true, true, false, false, false, false, false, false] rfl rfl (take_ofW HT_.out HW_.out (by kernel_rfl)) (fun _ _ _ h => h) (Or.inl ⟨by rfl, ?_⟩) hHeld ?_ ?_
                            rotate_left
                            ·rintro w' ⟨s0, s1, s2, s3, s4, s5, s6, s7, s8, s9, s10, s11, s12, s13⟩
                             go_simp
                             with_reducible rfl
                            rotate_left
                            ·simp only [Act.put, List.setIfInBounds_toArray, List.set_cons_zero, List.set_cons_succ, i64_w, i32_w]
                             rfl
                            refine pN HT_.out 21 134 ?_
                            refine pN HT_.out 22 135 ?_
                            refine pN HT_.out 23 136 ?_
                            refine take_ (i := 24) (N := some 137) (v := ?_) (a' := ?_) #[true, true, true, true, true, true, true, true, true, true, true, true, true, true, true, true, true, true, true, true, true, true, true, true, true, false, false] rfl rfl (take_ofW HT_.out HW_.out (by kernel_rfl)) (fun _ _ _ h => h) (Or.inl ⟨by rfl, ?_⟩) hHeld ?_ ?_
                            rotate_left
                            ·rintro w' ⟨s0, s1, s2, s3, s4, s5, s6, s7, s8, s9, s10, s11, s12, s13⟩
                             go_simp
                             with_reducible rfl
                            rotate_left
                            ·simp only [Act.put, List.setIfInBounds_toArray, List.set_cons_zero, List.set_cons_succ, i64_w, i32_w]
                             rfl
                            refine one_ (i := 25) (N := some 138) #[true, true, true, true, true, true, true, true, true, true, true, true, true, true, true, true, true, true, true, true, true, true, true, true, true, true, false] rfl rfl (one_of HT_.out (by kernel_rfl)) (by decide) (fun K hK => ?_)
                            refine goes_ Try.func24 (by kernel_rfl) rfl #[.slice A613_0 (rd_L1 ((rd_T27 t596 x10_2).f3) x11_4).length c613_0, .slice A616_0 (rd_L1 ((rd_T27 t593 x10_2).f3) (ji75)).length c616_0] (by rfl) rfl rfl (by (try simp only [List.map_toArray, List.map_cons, List.map_nil]); first | done | (simp only [hji75]; rfl) | rfl | (simp only [List.length_drop, List.length_take]; rfl)) ?_
                            with_reducible refine (sennitref01_Same.calls k4 _ _ (rd_L1 ((rd_T27 t596 x10_2).f3) x11_4) _ _ (rd_L1 ((rd_T27 t593 x10_2).f3) (ji75)) true _ ?side1 ?side2 ?side3 ?side4 A78.out).mono ?_
                            (case side1 => repeat (first | exact (by repeat (first | (with_reducible exact HR613_0.out) | (with_reducible refine Kd.C_alloc ?_ _) | (with_reducible refine Kd.C_drewN ?_ _) | (with_reducible refine Kd.C_drew ?_) | exact HR613_0.out)) | (with_reducible refine Kd.C_alloc ?_ _) | (with_reducible refine Kd.C_drewN ?_ _) | (with_reducible refine Kd.C_drew ?_)))
                            (case side2 => exact HC613_0.out)
                            (case side3 => repeat (first | exact (by repeat (first | (with_reducible exact HR616_0.out) | (with_reducible refine Kd.C_alloc ?_ _) | (with_reducible refine Kd.C_drewN ?_ _) | (with_reducible refine Kd.C_drew ?_) | exact HR616_0.out)) | (with_reducible refine Kd.C_alloc ?_ _) | (with_reducible refine Kd.C_drewN ?_ _) | (with_reducible refine Kd.C_drew ?_)))
                            (case side4 => exact HC616_0.out)
                            rintro e w' ⟨rfl, ⟨nd, rfl⟩⟩
                            refine ⟨_, rfl, ?_⟩
                            refine hK.out _ _ ⟨hHeld.1, hHeld.2.1, hHeld.2.2.1, hHeld.2.2.2.1, hHeld.2.2.2.2.1, hHeld.2.2.2.2.2.1, hHeld.2.2.2.2.2.2.1, hHeld.2.2.2.2.2.2.2.1, hHeld.2.2.2.2.2.2.2.2.1, hHeld.2.2.2.2.2.2.2.2.2.1, hHeld.2.2.2.2.2.2.2.2.2.2.1, hHeld.2.2.2.2.2.2.2.2.2.2.2.1, hHeld.2.2.2.2.2.2.2.2.2.2.2.2.1, hHeld.2.2.2.2.2.2.2.2.2.2.2.2.2⟩ (fun hHeld => ?_)
                            clear hK K
                            refine norm_ (a' := ?_) ?_ ?_
                            rotate_left
                            ·show Act.put _ (some 138) _ = _
                             simp only [Act.put, List.setIfInBounds_toArray, List.set_cons_zero, List.set_cons_succ, i64_w, i32_w]
                             rfl
                            refine pN HT_.out 26 139 ?_
                            refine done_ (done_of HT_.out (by kernel_rfl)) ?_
                            try go_wp2
                            go_roundg k4
                            case measure => have := HJ3.out; have := HK2.out; have := HJ57.out; have := HK4.out; omega
                            case rel => exact ⟨(wrap64 (x11_4 + 1)), (by first | rfl | (simp; done) | (simp [*]; done)), H', ⟨by have := HJ3.out; have := HK2.out; have := HJ57.out; have := HK4.out; omega⟩, ⟨by (with_reducible repeat (first | apply nA | apply nN | apply nD)); exact HO_8.out⟩, ⟨by (with_reducible repeat (first | apply nA | apply nN | apply nD)); exact HO_9.out⟩, ⟨by (with_reducible repeat (first | apply vA | apply vN | apply vD)); exact HO_568001.out⟩, ⟨by (with_reducible repeat (first | apply vA | apply vN | apply vD)); exact HO_568002.out⟩, ⟨by (with_reducible repeat (first | apply vA | apply vN | apply vD)); exact HO_568003.out⟩, ⟨by (with_reducible repeat (first | apply vA | apply vN | apply vD)); exact HO_574001.out⟩, ⟨by (with_reducible repeat (first | apply vA | apply vN | apply vD)); exact HO_574002.out⟩, ⟨by (with_reducible repeat (first | apply nA | apply nN | apply nD)); exact HO_574003.out⟩, ⟨by (with_reducible repeat (first | refine blk_drewN ?_ _ | refine blk_drew ?_ | refine blk_alloc ?_ _)); exact BK567.out⟩, ⟨by (with_reducible repeat (first | refine blk_drewN ?_ _ | refine blk_drew ?_ | refine blk_alloc ?_ _)); exact BK573.out⟩, ⟨by repeat (first | (with_reducible first | exact HB.out | apply below_alloc | apply pw_below_drewN | apply below_drew1 | refine below_set ?_ GE567.out | refine below_set ?_ GE573.out) | exact HB.out)⟩⟩
                           ·replace c79 := Bool.eq_false_iff.mpr c79
                            subst c79
                            have H1 : (none) = some r := by rw [if_neg (show ¬ (false = true) by decide)] at H; exact H
                            clear H
                            have H := H1
                            clear H1
                            exact absurd H (by simp)
                          ·rw [if_neg c77] at H
                           exact absurd H (by simp)
                         ·rw [if_neg c76] at H
                          exact absurd H (by simp)
                       ·rw [if_neg c73] at H
                        exact absurd H (by simp)
                      ·rw [if_neg c72] at H
                       exact absurd H (by simp)
                     ·rw [if_neg c71] at H
                      exact absurd H (by simp)
                    ·rw [if_neg c70] at H
                     have c70b0 : decide (x11_4 < (((rd_T27 t593 x10_2).f3).length : Int)) = false := decide_eq_false c70
                     clear c70
                     have H' := am H
                     clear H
                     have p611 : 0 ≤ (x10_2 : Int) := of_decide_eq_true (by first | (with_reducible assumption) | assumption)
                     have q611 : x10_2 < (t593.length : Int) := of_decide_eq_true (by first | (with_reducible assumption) | assumption)
                     obtain ⟨ad611, A611_1, c611_1, A611_2, c611_2, A611_3, c611_3, e611, hx611_0, hx611_1, hx611_2, hx611_3, hl611_1, hi611_1, hl611_2, hi611_2, hl611_3, hi611_3⟩ := at_T27 (Kd.N_reads' HO_8.out).2.2 x10_2 p611 q611
                     cases e611
                     obtain ⟨ce611, hce611, hMe611, hcc611⟩ := Kd.N_get HO_8.out z27 x10_2 p611 (by first | exact q611 | exact of_decide_eq_true (by first | (with_reducible assumption) | assumption) | (have e_ := (Kd.N_reads' HO_8.out).1; omega))
                     obtain ⟨ua611_1, uc611_1, ua611_2, uc611_2, ua611_3, uc611_3, rfl, ul611_1, ge611_1, ul611_2, ge611_2, ul611_3, ge611_3⟩ := k27_openF hMe611
                     have hv611_1 := hcc611 1 _ rfl
                     rw [add_field _ _ 1 (by omega)] at hv611_1
                     replace hv611_1 := Option.some.inj (hv611_1.symm.trans hx611_1)
                     injection hv611_1 with hva_ hvn_ hvc_
                     rw [hva_] at ge611_1
                     rw [hvc_] at ul611_1
                     have HL611_1 := am (show Kd.V Kd.string 9 _ w.heap.size _ _ ((rd_T27 t593 x10_2).f1) from Kd.V_mk ul611_1 ge611_1)
                     clear hva_ hvn_ hvc_ ge611_1 ul611_1
                     have hv611_2 := hcc611 2 _ rfl
                     rw [add_field _ _ 2 (by omega)] at hv611_2
                     replace hv611_2 := Option.some.inj (hv611_2.symm.trans hx611_2)
                     injection hv611_2 with hva_ hvn_ hvc_
                     rw [hva_] at ge611_2
                     rw [hvc_] at ul611_2
                     have HL611_2 := am (show Kd.V Kd.string 9 _ w.heap.size _ _ ((rd_T27 t593 x10_2).f2) from Kd.V_mk ul611_2 ge611_2)
                     clear hva_ hvn_ hvc_ ge611_2 ul611_2
                     have hv611_3 := hcc611 3 _ rfl
                     rw [add_field _ _ 3 (by omega)] at hv611_3
                     replace hv611_3 := Option.some.inj (hv611_3.symm.trans hx611_3)
                     injection hv611_3 with hva_ hvn_ hvc_
                     rw [hva_] at ge611_3
                     rw [hvc_] at ul611_3
                     have HL611_3 := am (show Kd.V (Kd.slice 9 Kd.string) 22 _ w.heap.size _ _ ((rd_T27 t593 x10_2).f3) from Kd.V_mk ul611_3 ge611_3)
                     clear hva_ hvn_ hvc_ ge611_3 ul611_3
                     clear hcc611 hce611
                     have HR611_1 := am hi611_1
                     have HC611_1 := am hl611_1
                     clear hi611_1 hl611_1
                     have HR611_2 := am hi611_2
                     have HC611_2 := am hl611_2
                     clear hi611_2 hl611_2
                     have HR611_3 := am hi611_3
                     have HC611_3 := am hl611_3
                     clear hi611_3 hl611_3
                     replace p611 := eq_true p611
                     replace q611 := eq_true q611
                     go_wp2
                     go_roundg k4
                     case measure => have := HJ3.out; have := HK2.out; have := HJ57.out; have := HK4.out; omega
                     case rel => exact ⟨(wrap64 (x10_2 + 1)), (by first | rfl | (simp; done) | (simp [*]; done)), H', ⟨by have := HJ3.out; have := HK2.out; have := HJ57.out; have := HK4.out; omega⟩, ⟨by (with_reducible repeat (first | apply nA | apply nN | apply nD)); exact HO_8.out⟩, ⟨by (with_reducible repeat (first | apply nA | apply nN | apply nD)); exact HO_9.out⟩, ⟨by (with_reducible repeat (first | apply vA | apply vN | apply vD)); exact HO_568001.out⟩, ⟨by (with_reducible repeat (first | apply vA | apply vN | apply vD)); exact HO_568002.out⟩, ⟨by (with_reducible repeat (first | apply vA | apply vN | apply vD)); exact HO_568003.out⟩, ⟨by (with_reducible repeat (first | apply vA | apply vN | apply vD)); exact HO_574001.out⟩, ⟨by (with_reducible repeat (first | apply vA | apply vN | apply vD)); exact HO_574002.out⟩, ⟨by (with_reducible repeat (first | apply nA | apply nN | apply nD)); exact HO_574003.out⟩, ⟨by (with_reducible repeat (first | refine blk_drewN ?_ _ | refine blk_drew ?_ | refine blk_alloc ?_ _)); exact BK567.out⟩, ⟨by (with_reducible repeat (first | refine blk_drewN ?_ _ | refine blk_drew ?_ | refine blk_alloc ?_ _)); exact BK573.out⟩, ⟨by repeat (first | (with_reducible first | exact HB.out | apply below_alloc | apply pw_below_drewN | apply below_drew1 | refine below_set ?_ GE567.out | refine below_set ?_ GE573.out) | exact HB.out)⟩⟩
                   ·rw [if_neg c69] at H
                    exact absurd H (by simp)
                  ·rw [if_neg c68] at H
                   exact absurd H (by simp)
            ·rw [if_neg c57] at H
             have c57b0 : decide (x10_2 < (t593.length : Int)) = false := decide_eq_false c57
             clear c57
             by_cases c82 : t568 = true
             ·subst c82
              have H1 : ((pick_Clean.f k2 t593).bind fun t599 => (if 0 < (l0_3.length : Int) then ((sennitref06_Differing.f k2 (rd_L1 l0_3 0) l0_3).bind fun t601 => (some (t599 == ((t601.length : Int) == 0)))) else (none))) = some r := by rw [if_pos rfl] at H; exact H
              clear H
              have H := H1
              clear H1
              replace H := Option.bind_eq_some_iff.mp H
              obtain ⟨t599, A830, H⟩ := H
              replace H : (if 0 < (l0_3.length : Int) then ((sennitref06_Differing.f k2 (rd_L1 l0_3 0) l0_3).bind fun t601 => (some (t599 == ((t601.length : Int) == 0)))) else (none)) = some r := H
              have A83 := am A830
              clear A830
              by_cases c84 : 0 < (l0_3.length : Int)
              ·rw [if_pos c84] at H
               have c84b0 : decide (0 < (l0_3.length : Int)) = true := decide_eq_true c84
               have c84b1 : decide (0 < l0_3.length) = true := decide_eq_true (by omega)
               clear c84
               replace H := Option.bind_eq_some_iff.mp H
               obtain ⟨t601, A850, H⟩ := H
               replace H : (some (t599 == ((t601.length : Int) == 0))) = some r := H
               have A85 := am A850
               clear A850
               obtain rfl := Option.some.inj H
               try go_wp2
               have n0_ := am (Kd.N_drew HO_8.out)
               have n1_ := am (Kd.N_drew HO_9.out)
               have n2_ := am (Kd.V_drew HO_568001.out)
               have n3_ := am (Kd.V_drew HO_568002.out)
               have n4_ := am (Kd.V_drew HO_568003.out)
               have n5_ := am (Kd.V_drew HO_574001.out)
               have n6_ := am (Kd.V_drew HO_574002.out)
               have n7_ := am (Kd.N_drew HO_574003.out)
               have n8_ := am (blk_drew BK567.out)
               have n9_ := am (blk_drew BK573.out)
               have n10_ := am (below_drew1 HB.out)
               clear HO_8
               clear HO_9
               clear HO_568001
               clear HO_568002
               clear HO_568003
               clear HO_574001
               clear HO_574002
               clear HO_574003
               clear BK567
               clear BK573
               clear HB
               have HO_8 := n0_
               have HO_9 := n1_
               have HO_568001 := n2_
               have HO_568002 := n3_
               have HO_568003 := n4_
               have HO_574001 := n5_
               have HO_574002 := n6_
               have HO_574003 := n7_
               have BK567 := n8_
               have BK573 := n9_
               have HB := n10_
               clear n0_ n1_ n2_ n3_ n4_ n5_ n6_ n7_ n8_ n9_ n10_
               have p600 : 0 ≤ (0 : Int) := (by omega)
               have q600 : 0 < (l0_3.length : Int) := of_decide_eq_true (by first | (with_reducible assumption) | assumption)
               obtain ⟨ad600, A600_0, c600_0, e600, hx600_0, hl600_0, hi600_0⟩ := at_L1 (Kd.V_reads' HO_568003.out).2.2 0 p600 q600
               cases e600
               obtain ⟨ce600, hce600, hMe600, hcc600⟩ := Kd.V_get HO_568003.out [] 0 p600 (by first | exact q600 | exact of_decide_eq_true (by first | (with_reducible assumption) | assumption) | (have e_ := (Kd.V_reads' HO_568003.out).1; omega))
               obtain ⟨ua600_0, uc600_0, rfl, ul600_0, ge600_0⟩ := Kd.FK_slice_open hMe600
               have hv600_0 := hcc600 0 _ rfl
               rw [Nat.add_zero, show ((Kd.slice 9 Kd.string)).sz = 1 from rfl, Nat.mul_one] at hv600_0
               replace hv600_0 := Option.some.inj (hv600_0.symm.trans hx600_0)
               injection hv600_0 with hva_ hvn_ hvc_
               rw [hva_] at ge600_0
               rw [hvc_] at ul600_0
               have HL600_0 := am (show Kd.V Kd.string 9 _ w.heap.size _ _ (rd_L1 l0_3 0) from Kd.V_mk ul600_0 ge600_0)
               clear hva_ hvn_ hvc_ ge600_0 ul600_0
               clear hcc600 hce600
               have qi600 : (0 < l0_3.length) = True := eq_true (by omega)
               (try rw [show ((0 : Int)).toNat = 0 from rfl] at hx600_0)
               (try rw [Addr.add_zero'] at hx600_0)
               have HR600_0 := am hi600_0
               have HC600_0 := am hl600_0
               clear hi600_0 hl600_0
               replace p600 := eq_true p600
               replace q600 := eq_true q600
               refine start_ (n := 16) (S := fun w' => w'.cell? ⟨gb567, 0, none⟩ = some (.bool a0_0) ∧ w'.cell? ⟨gb567, 1, none⟩ = some (.slice A0_1 l0_1.length c0_1) ∧ w'.cell? ⟨gb567, 2, none⟩ = some (.slice A0_2 l0_2.length c0_2) ∧ w'.cell? ⟨gb567, 3, none⟩ = some (.slice (some ad600) l0_3.length c0_3) ∧ w'.cell? ad600 = some (.slice A600_0 (rd_L1 l0_3 0).length c600_0)) (ds := []) #[false, false, false, false, false, false, false, false, false, false, false, false, false, false, false, false] (by kernel_rfl) rfl rfl ⟨(blk_cell BK567.out 0).trans rfl, (blk_cell BK567.out 1).trans rfl, (blk_cell BK567.out 2).trans rfl, (blk_cell BK567.out 3).trans rfl, hx600_0⟩ (fun hHeld => ?_); refine with_tabW sennitlaw10_ZealTurn.tab21 sennitlaw10_ZealTurn.bits21 (fun HT_ HW_ => ?_)
               generalize wr.drew = w86 at HO_8 HO_9 HO_568001 HO_568002 HO_568003 HO_574001 HO_574002 HO_574003 BK567 BK573 HB HL600_0 HR600_0 hx600_0 hHeld ⊢
               refine pN HT_.out 0 140 ?_
               refine pN HT_.out 1 141 ?_
               refine pN HT_.out 2 142 ?_
               refine pN HT_.out 4 144 ?_
               refine pN HT_.out 8 148 ?_
               refine take_ (i := 5) (N := some 145) (v := ?_) (a' := ?_) #[true, true, true, false, true, true, false, false, true, false, false, false, false, false, false, false] rfl rfl (take_ofW HT_.out HW_.out (by kernel_rfl)) (fun _ _ _ h => h) (Or.inl ⟨by rfl, ?_⟩) hHeld ?_ ?_
               rotate_left
               ·rintro w' ⟨s0, s1, s2, s3, s4⟩
                go_simp
                with_reducible rfl
               rotate_left
               ·simp only [Act.put, List.setIfInBounds_toArray, List.set_cons_zero, List.set_cons_succ, i64_w, i32_w]
                rfl
               refine pN HT_.out 6 146 ?_
               refine take_ (i := 7) (N := some 147) (v := ?_) (a' := ?_) #[true, true, true, false, true, true, true, true, true, false, false, false, false, false, false, false] rfl rfl (take_ofW HT_.out HW_.out (by kernel_rfl)) (fun _ _ _ h => h) (Or.inl ⟨by rfl, ?_⟩) hHeld ?_ ?_
               rotate_left
               ·rintro w' ⟨s0, s1, s2, s3, s4⟩
                go_simp
                with_reducible rfl
               rotate_left
               ·simp only [Act.put, List.setIfInBounds_toArray, List.set_cons_zero, List.set_cons_succ, i64_w, i32_w]
                rfl
               refine take_ (i := 9) (N := some 149) (v := ?_) (a' := ?_) #[true, true, true, false, true, true, true, true, true, true, false, false, false, false, false, false] rfl rfl (take_ofW HT_.out HW_.out (by kernel_rfl)) (fun _ _ _ h => h) (Or.inl ⟨by rfl, ?_⟩) hHeld ?_ ?_
               rotate_left
               ·rintro w' ⟨s0, s1, s2, s3, s4⟩
                go_simp
                with_reducible rfl
               rotate_left
               ·simp only [Act.put, List.setIfInBounds_toArray, List.set_cons_zero, List.set_cons_succ, i64_w, i32_w]
                rfl
               refine one_ (i := 3) (N := some 143) #[true, true, true, true, true, true, true, true, true, true, false, false, false, false, false, false] rfl rfl (one_of HT_.out (by kernel_rfl)) (by decide) (fun K hK => ?_)
               refine goes_ Try.func43 (by kernel_rfl) rfl #[.slice Ao55 t593.length co55] (by rfl) rfl rfl (by (try simp only [List.map_toArray, List.map_cons, List.map_nil]); first | done | rfl | (simp only [List.length_drop, List.length_take]; rfl)) ?_
               with_reducible refine (pick_Clean.calls k2 _ _ t593 t599 _ ?side1 ?side2 A83.out).mono ?_
               (case side1 => repeat (first | exact (Kd.N_reads' HO_8.out).2.2 | (with_reducible refine Kd.C_alloc ?_ _) | (with_reducible refine Kd.C_drewN ?_ _) | (with_reducible refine Kd.C_drew ?_)))
               (case side2 => exact (Kd.N_reads' HO_8.out).2.1)
               rintro e w87 ⟨rfl, hb⟩
               have HS4_ := (hb.cell (World.block_lt_of_cell? _ _ (hHeld.2.2.2.2))).trans (hHeld.2.2.2.2)
               refine ⟨_, rfl, ?_⟩
               have n0_ := am (Kd.N_below (by (with_reducible repeat (first | apply nA | apply nN | apply nD)); exact HO_8.out) hb)
               have n1_ := am (Kd.N_below (by (with_reducible repeat (first | apply nA | apply nN | apply nD)); exact HO_9.out) hb)
               have n2_ := am (Kd.V_below (by (with_reducible repeat (first | apply vA | apply vN | apply vD)); exact HO_568001.out) hb)
               have n3_ := am (Kd.V_below (by (with_reducible repeat (first | apply vA | apply vN | apply vD)); exact HO_568002.out) hb)
               have n4_ := am (Kd.V_below (by (with_reducible repeat (first | apply vA | apply vN | apply vD)); exact HO_568003.out) hb)
               have n5_ := am (Kd.V_below (by (with_reducible repeat (first | apply vA | apply vN | apply vD)); exact HO_574001.out) hb)
               have n6_ := am (Kd.V_below (by (with_reducible repeat (first | apply vA | apply vN | apply vD)); exact HO_574002.out) hb)
               have n7_ := am (Kd.N_below (by (with_reducible repeat (first | apply nA | apply nN | apply nD)); exact HO_574003.out) hb)
               have n8_ := am (Kd.V_below (by (with_reducible repeat (first | apply vA | apply vN | apply vD)); exact HL600_0.out) hb)
               have n9_ := am (blk_below (g := gb567) (o := .cells #[.bool a0_0, .slice A0_1 l0_1.length c0_1, .slice A0_2 l0_2.length c0_2, .slice (some ad600) l0_3.length c0_3] 27 (0, 0)) (by (with_reducible repeat (first | refine blk_drewN ?_ _ | refine blk_drew ?_ | refine blk_alloc ?_ _)); exact BK567.out) hb)
               have n10_ := am (blk_below (g := gb573) (o := .cells #[.bool a0_0, .slice A0_1 l0_1.length c0_1, .slice A0_2 l0_2.length c0_2, .slice Ao48 y590.length co48] 27 (0, 0)) (by (with_reducible repeat (first | refine blk_drewN ?_ _ | refine blk_drew ?_ | refine blk_alloc ?_ _)); exact BK573.out) hb)
               have n11_ := am (Kd.C_below (by repeat (first | (with_reducible exact HR600_0.out) | (with_reducible refine Kd.C_alloc ?_ _) | (with_reducible refine Kd.C_drewN ?_ _) | (with_reducible refine Kd.C_drew ?_) | exact HR600_0.out)) hb)
               have n12_ := am (below_step (by repeat (first | (with_reducible first | exact HB.out | apply below_alloc | apply pw_below_drewN | apply below_drew1 | refine below_set ?_ GE567.out | refine below_set ?_ GE573.out) | exact HB.out)) hb)
               clear HO_8
               clear HO_9
               clear HO_568001
               clear HO_568002
               clear HO_568003
               clear HO_574001
               clear HO_574002
               clear HO_574003
               clear HL600_0
               clear BK567
               clear BK573
               clear HR600_0
               clear HB
               have HO_8 := n0_
               have HO_9 := n1_
               have HO_568001 := n2_
               have HO_568002 := n3_
               have HO_568003 := n4_
               have HO_574001 := n5_
               have HO_574002 := n6_
               have HO_574003 := n7_
               have HL600_0 := n8_
               have BK567 := n9_
               have BK573 := n10_
               have HR600_0 := n11_
               have HB := n12_
               clear n0_ n1_ n2_ n3_ n4_ n5_ n6_ n7_ n8_ n9_ n10_ n11_ n12_
               (try clear hb)
               (try clear hb2)
               (try clear hk)
               (try clear hi)
               refine hK.out _ _ ⟨(blk_cell BK567.out 0).trans rfl, (blk_cell BK567.out 1).trans rfl, (blk_cell BK567.out 2).trans rfl, (blk_cell BK567.out 3).trans rfl, HS4_⟩ (fun hHeld => ?_)
               clear hK K
               refine norm_ (a' := ?_) ?_ ?_
               rotate_left
               ·show Act.put _ (some 143) _ = _
                simp only [Act.put, List.setIfInBounds_toArray, List.set_cons_zero, List.set_cons_succ, i64_w, i32_w]
                rfl
               refine one_ (i := 10) (N := some 150) #[true, true, true, true, true, true, true, true, true, true, true, false, false, false, false, false] rfl rfl (one_of HT_.out (by kernel_rfl)) (by decide) (fun K hK => ?_)
               refine goes_ Try.func22 (by kernel_rfl) rfl #[.slice A600_0 (rd_L1 l0_3 0).length c600_0, .slice (some ad600) l0_3.length c0_3] (by rfl) rfl rfl (by (try simp only [List.map_toArray, List.map_cons, List.map_nil]); first | done | rfl | (simp only [List.length_drop, List.length_take]; rfl)) ?_
               with_reducible refine (sennitref06_Differing.calls k2 _ _ (rd_L1 l0_3 0) (fun k_ => (((P0_1_ k_ ∨ P0_2_ k_ ∨ P0_3_ k_) ∨ w.heap.size ≤ k_) ∧ (some k_ ≠ (.slice Ao55 t593.length co55 : Value).ownBlock ∧ (some k_ ≠ (.slice Ao56 t596.length co56 : Value).ownBlock ∧ (some k_ ≠ (.slice Ao48 y590.length co48 : Value).ownBlock ∧ (k_ ≠ gb567 ∧ k_ ≠ gb573)))))) _ _ l0_3 t601 _ ?side1 ?side2 ?side3 A85.out).mono ?_
               (case side1 => repeat (first | exact (by repeat (first | (with_reducible exact HR600_0.out) | (with_reducible refine Kd.C_alloc ?_ _) | (with_reducible refine Kd.C_drewN ?_ _) | (with_reducible refine Kd.C_drew ?_) | exact HR600_0.out)) | (with_reducible refine Kd.C_alloc ?_ _) | (with_reducible refine Kd.C_drewN ?_ _) | (with_reducible refine Kd.C_drew ?_)))
               (case side2 => exact HC600_0.out)
               (case side3 => exact HO_568003.out)
               rintro e w88 ⟨v602, rfl, ho0, hb⟩
               have HS4_ := (hb.cell (World.block_lt_of_cell? _ _ (hHeld.2.2.2.2))).trans (hHeld.2.2.2.2)
               refine ⟨_, rfl, ?_⟩
               have n0_ := am (Kd.N_elder' (by (with_reducible repeat (first | apply nA | apply nN | apply nD)); exact HO_8.out) (Kd.N_base ho0) hb)
               have n1_ := am (Kd.N_elder' (by (with_reducible repeat (first | apply nA | apply nN | apply nD)); exact HO_9.out) (Kd.N_base ho0) hb)
               have n2_ := am (Kd.V_elder' (by (with_reducible repeat (first | apply vA | apply vN | apply vD)); exact HO_568001.out) (Kd.N_base ho0) hb)
               have n3_ := am (Kd.V_elder' (by (with_reducible repeat (first | apply vA | apply vN | apply vD)); exact HO_568002.out) (Kd.N_base ho0) hb)
               have n4_ := am (Kd.V_elder' (by (with_reducible repeat (first | apply vA | apply vN | apply vD)); exact HO_568003.out) (Kd.N_base ho0) hb)
               have n5_ := am (Kd.V_elder' (by (with_reducible repeat (first | apply vA | apply vN | apply vD)); exact HO_574001.out) (Kd.N_base ho0) hb)
               have n6_ := am (Kd.V_elder' (by (with_reducible repeat (first | apply vA | apply vN | apply vD)); exact HO_574002.out) (Kd.N_base ho0) hb)
               have n7_ := am (Kd.N_elder' (by (with_reducible repeat (first | apply nA | apply nN | apply nD)); exact HO_574003.out) (Kd.N_base ho0) hb)
               have n8_ := am (Kd.V_elder' (by (with_reducible repeat (first | apply vA | apply vN | apply vD)); exact HL600_0.out) (Kd.N_base ho0) hb)
               have n9_ := am (Kd.N_lower (Kd.N_mono (ok' := fun k_ => ((P0_1_ k_ ∨ P0_2_ k_ ∨ P0_3_ k_) ∨ w.heap.size ≤ k_) ∧ some k_ ≠ (.slice Ao55 t593.length co55 : Value).ownBlock ∧ some k_ ≠ (.slice Ao56 t596.length co56 : Value).ownBlock ∧ some k_ ≠ (.slice Ao48 y590.length co48 : Value).ownBlock ∧ k_ ≠ gb567 ∧ k_ ≠ gb573) ho0 (fun k_ hk_ => ⟨Or.elim hk_ (fun hs_ => hs_.1) (fun hn_ => (.inr (Nat.le_trans (below_size (by repeat (first | (with_reducible first | exact HB.out | apply below_alloc | apply pw_below_drewN | apply below_drew1 | refine below_set ?_ GE567.out | refine below_set ?_ GE573.out) | exact HB.out))) hn_))), Or.elim hk_ (fun hs_ => hs_.2.1) (fun hn_ => (Kd.fresh' (Kd.N_lt (by (with_reducible repeat (first | apply nA | apply nN | apply nD)); exact HO_8.out)) k_ hn_)), Or.elim hk_ (fun hs_ => hs_.2.2.1) (fun hn_ => (Kd.fresh' (Kd.N_lt (by (with_reducible repeat (first | apply nA | apply nN | apply nD)); exact HO_9.out)) k_ hn_)), Or.elim hk_ (fun hs_ => hs_.2.2.2.1) (fun hn_ => (Kd.fresh' (Kd.N_lt (by (with_reducible repeat (first | apply nA | apply nN | apply nD)); exact HO_574003.out)) k_ hn_)), Or.elim hk_ (fun hs_ => hs_.2.2.2.2.1) (fun hn_ => (Kd.freshB (g := gb567) (o := .cells #[.bool a0_0, .slice A0_1 l0_1.length c0_1, .slice A0_2 l0_2.length c0_2, .slice (some ad600) l0_3.length c0_3] 27 (0, 0)) (by (with_reducible repeat (first | refine blk_drewN ?_ _ | refine blk_drew ?_ | refine blk_alloc ?_ _)); exact BK567.out) k_ hn_)), Or.elim hk_ (fun hs_ => hs_.2.2.2.2.2) (fun hn_ => (Kd.freshB (g := gb573) (o := .cells #[.bool a0_0, .slice A0_1 l0_1.length c0_1, .slice A0_2 l0_2.length c0_2, .slice Ao48 y590.length co48] 27 (0, 0)) (by (with_reducible repeat (first | refine blk_drewN ?_ _ | refine blk_drew ?_ | refine blk_alloc ?_ _)); exact BK573.out) k_ hn_))⟩)) (below_size (by repeat (first | (with_reducible first | exact HB.out | apply below_alloc | apply pw_below_drewN | apply below_drew1 | refine below_set ?_ GE567.out | refine below_set ?_ GE573.out) | exact HB.out))))
               have n10_ := am (blk_below (g := gb567) (o := .cells #[.bool a0_0, .slice A0_1 l0_1.length c0_1, .slice A0_2 l0_2.length c0_2, .slice (some ad600) l0_3.length c0_3] 27 (0, 0)) (by (with_reducible repeat (first | refine blk_drewN ?_ _ | refine blk_drew ?_ | refine blk_alloc ?_ _)); exact BK567.out) hb)
               have n11_ := am (blk_below (g := gb573) (o := .cells #[.bool a0_0, .slice A0_1 l0_1.length c0_1, .slice A0_2 l0_2.length c0_2, .slice Ao48 y590.length co48] 27 (0, 0)) (by (with_reducible repeat (first | refine blk_drewN ?_ _ | refine blk_drew ?_ | refine blk_alloc ?_ _)); exact BK573.out) hb)
               have n12_ := am (Kd.C_below (by repeat (first | (with_reducible exact HR600_0.out) | (with_reducible refine Kd.C_alloc ?_ _) | (with_reducible refine Kd.C_drewN ?_ _) | (with_reducible refine Kd.C_drew ?_) | exact HR600_0.out)) hb)
               have n13_ := am (below_step (by repeat (first | (with_reducible first | exact HB.out | apply below_alloc | apply pw_below_drewN | apply below_drew1 | refine below_set ?_ GE567.out | refine below_set ?_ GE573.out) | exact HB.out)) hb)
               clear HO_8
               clear HO_9
               clear HO_568001
               clear HO_568002
               clear HO_568003
               clear HO_574001
               clear HO_574002
               clear HO_574003
               clear HL600_0
               clear BK567
               clear BK573
               clear HR600_0
               clear HB
               have HO_8 := n0_
               have HO_9 := n1_
               have HO_568001 := n2_
               have HO_568002 := n3_
               have HO_568003 := n4_
               have HO_574001 := n5_
               have HO_574002 := n6_
               have HO_574003 := n7_
               have HL600_0 := n8_
               have HO603 := n9_
               have BK567 := n10_
               have BK573 := n11_
               have HR600_0 := n12_
               have HB := n13_
               clear n0_ n1_ n2_ n3_ n4_ n5_ n6_ n7_ n8_ n9_ n10_ n11_ n12_ n13_
               (try clear hb)
               (try clear hb2)
               (try clear hk)
               (try clear hi)
               (try clear ho0)
               obtain ⟨Ao89, co89, eo89⟩ := Kd.N_slice HO603.out
               (first | subst eo89 | (injection eo89 with f1_ f2_ f3_; have f4_ := f1_.symm; have f5_ := f3_.symm; clear f1_ f2_ f3_; subst f4_; subst f5_))
               refine hK.out _ _ ⟨(blk_cell BK567.out 0).trans rfl, (blk_cell BK567.out 1).trans rfl, (blk_cell BK567.out 2).trans rfl, (blk_cell BK567.out 3).trans rfl, HS4_⟩ (fun hHeld => ?_)
               clear hK K
               refine norm_ (a' := ?_) ?_ ?_
               rotate_left
               ·show Act.put _ (some 150) _ = _
                simp only [Act.put, List.setIfInBounds_toArray, List.set_cons_zero, List.set_cons_succ, i64_w, i32_w]
                rfl
               refine pN HT_.out 11 151 ?_
               refine pN HT_.out 12 152 ?_
               refine pN HT_.out 13 153 ?_
               refine pN HT_.out 14 154 ?_
               refine pN HT_.out 15 4 ?_
               refine done_ (done_of HT_.out (by kernel_rfl)) ?_
               try go_wp2
               go_ret
               exact ⟨by first | rfl | (simp [errW_none, errW_some] <;> rfl) | (simp only [← hji26]; first | rfl | (simp [errW_none, errW_some] <;> rfl)) | (simp [*, errW_none, errW_some] <;> rfl), by repeat (first | (with_reducible first | exact HB.out | apply below_alloc | apply pw_below_drewN | apply below_drew1 | refine below_set ?_ GE567.out | refine below_set ?_ GE573.out) | exact HB.out)⟩
              ·rw [if_neg c84] at H
               exact absurd H (by simp)
             ·replace c82 := Bool.eq_false_iff.mpr c82
              subst c82
              have H1 : (none) = some r := by rw [if_neg (show ¬ (false = true) by decide)] at H; exact H
              clear H
              have H := H1
              clear H1
              exact absurd H (by simp)
         ·rw [if_neg c35] at H
          have c35b0 : ((t593.length : Int) == (t596.length : Int)) = false := beq_eq_false_iff_ne.mpr c35
          have c35b1 : ((t593.length : Int) != (t596.length : Int)) = true := bne_iff_ne.mpr c35
          have c35b2 : (t593.length == t596.length) = false := by first | simpa using c35 | (simp at c35 ⊢; omega)
          exact absurd H (by simp)
        ·rw [if_neg c32] at H
         exact absurd H (by simp)
       ·rw [if_neg c29] at H
        exact absurd H (by simp)
      ·rw [if_neg c28] at H
       exact absurd H (by simp)
     ·rw [if_neg c27] at H
      exact absurd H (by simp)

end Go.Proofs.Ytiaoppikdgoieaa.M
namespace Go.Proofs.Ytiaoppikdgoieaa.M
open Go.RowKit Go.Proofs Go.Proofs.YtiaoppikdgoieaaW.PrintWords Go.Proofs.YtiaoppikdgoieaaW.PrintLast Go.Proofs.YtiaoppikdgoieaaW.PrintMore Go.Proofs.Ytiaoppikdgoieaa.Hand
set_option linter.unusedVariables false
set_option linter.unusedSimpArgs false

theorem equal52_c (a b : List ByteArray) (A0 : Option Addr) (c0 : Nat) (A1 : Option Addr) (c1 : Nat) (w : World) (hr0 : Kd.C Kd.string w A0 a.length a) (hc0 : a.length ≤ c0) (hr1 : Kd.C Kd.string w A1 b.length b) (hc1 : b.length ≤ c1) :
    Calls Try.prog 52 #[.slice A0 a.length c0, .slice A1 b.length c1] w fun e w' => e = .returned (.bool (decide (a = b))) ∧ Drawn0 w w' :=
  slices_Equal_string_string.calls _ _ _ a _ _ b _ _ hr0 hc0 hr1 hc1 (equal_f a b hr0.2.1)

set_option maxHeartbeats 1000000 in
theorem equal55_c (w : World) (A0 : Option Addr) (c0 : Nat) (l0 : List (List ByteArray)) (A1 : Option Addr) (c1 : Nat) (l1 : List (List ByteArray))
    (hr0 : Kd.C (Kd.slice 9 Kd.string) w A0 l0.length l0) (hc0 : l0.length ≤ c0) (hr1 : Kd.C (Kd.slice 9 Kd.string) w A1 l1.length l1) (hc1 : l1.length ≤ c1) :
    Calls Try.prog 55 #[.slice A0 l0.length c0, .slice A1 l1.length c1, .func (.func 52) #[] #[]] w fun e w' => e = .returned (.bool (decide (l0 = l1))) ∧ Drawn0 w w' := by
  have HR0 := Aside0.mk hr0
  have HC0 := Aside0.mk hc0
  have HR1 := Aside0.mk hr1
  have HC1 := Aside0.mk hc1
  have HL0 := Aside0.mk hr0.2.1
  have HL1 := Aside0.mk hr1.2.1
  clear hr0 hc0 hr1 hc1
  by_cases hlen : l0.length = l1.length
  · have HN := Aside0.mk hlen
    have e1 : ((l0.length : Int) != (l1.length : Int)) = false := by rw [hlen]; simp
    have e2 : (l0.length != l1.length) = false := by rw [hlen]; simp
    clear hlen
    go_enter Try.func55, Try.ntmps55
    go_wp2
    repeat (go_quiet (fail); try go_wp2)
    go_loopg [17] l0.length (fun kq v17 w' => ∃ i : Nat, v17 = .int .i64 (i : Int) ∧ Aside0 (i ≤ l0.length ∧ kq = l0.length - i) ∧ Aside0 (l0.take i = l1.take i) ∧ Drawn0 w w')
    case atStart => exact ⟨0, rfl, ⟨Nat.zero_le _, rfl⟩, ⟨by simp⟩, Drawn0.refl _⟩
    case round =>
      obtain ⟨i, rfl, HI, HA, ⟨m1, rfl⟩⟩ := hrel
      have hli := HL0.out
      by_cases c4 : i < l0.length
      · have c4b0 : decide ((i : Int) < (l0.length : Int)) = true := decide_eq_true (by omega)
        have c4b1 : decide (i < l0.length) = true := decide_eq_true c4
        have c5 : i < l1.length := by have := HN.out; omega
        have c5b1 : decide (i < l1.length) = true := decide_eq_true c5
        obtain ⟨z, g0⟩ : ∃ z, l0[i]? = some z := ⟨_, List.getElem?_eq_getElem c4⟩
        obtain ⟨y, g1⟩ : ∃ y, l1[i]? = some y := ⟨_, List.getElem?_eq_getElem c5⟩
        obtain ⟨ad, A2, c2, rfl, hx, hl, hi⟩ := C_row HR0.out i z g0
        obtain ⟨ae, A3, c3, rfl, hy, hm, hj⟩ := C_row HR1.out i y g1
        have HS0 := Aside0.mk (take_snoc l0 i z g0)
        have HS1 := Aside0.mk (take_snoc l1 i y g1)
        have G0 := Aside0.mk g0
        have G1 := Aside0.mk g1
        have HR2 := Aside0.mk hi
        have HC2 := Aside0.mk hl
        have HR3 := Aside0.mk hj
        have HC3 := Aside0.mk hm
        clear hi hl hj hm g0 g1
        have bi : (i : Int) < 9223372036854775807 := by omega
        by_cases hp : z = y
        · have HD : Aside0 (decide (z = y) = true) := ⟨decide_eq_true hp⟩
          have HP := Aside0.mk hp
          clear hp
          go_wp2_with (go_at_call 52; (with_reducible refine (equal52_c z y _ _ _ _ _ ?sa ?sb ?sc ?sd).mono ?_); (case sa => with_reducible exact Kd.C_drewN HR2.out _); (case sb => exact HC2.out); (case sc => with_reducible exact Kd.C_drewN HR3.out _); (case sd => exact HC3.out); rintro e w' ⟨he, ⟨nd, rfl⟩⟩; rw [HD.out] at he; subst he)
          go_roundg (l0.length - (i + 1))
          case measure => have := HI.out; omega
          case rel => exact ⟨i + 1, by go_num, ⟨by omega, rfl⟩, ⟨by rw [HS0.out, HS1.out, HA.out, HP.out]⟩, ⟨⟨_, rfl⟩⟩⟩
        · have HD : Aside0 (decide (z = y) = false) := ⟨decide_eq_false hp⟩
          have HP := Aside0.mk hp
          clear hp
          go_wp2_with (go_at_call 52; (with_reducible refine (equal52_c z y _ _ _ _ _ ?sa ?sb ?sc ?sd).mono ?_); (case sa => with_reducible exact Kd.C_drewN HR2.out _); (case sb => exact HC2.out); (case sc => with_reducible exact Kd.C_drewN HR3.out _); (case sd => exact HC3.out); rintro e w' ⟨he, ⟨nd, rfl⟩⟩; rw [HD.out] at he; subst he)
          go_ret
          exact ⟨by rw [decide_eq_false (fun e => HP.out (by have h0 := G0.out; have h1 := G1.out; rw [e, h1] at h0; exact (Option.some.inj h0).symm))]; rfl, ⟨⟨_, rfl⟩⟩⟩
      · have c4b0 : decide ((i : Int) < (l0.length : Int)) = false := decide_eq_false (by omega)
        have c4b1 : decide (i < l0.length) = false := decide_eq_false c4
        have HQ : Aside0 (l0 = l1) := ⟨by
          have := HA.out
          rwa [List.take_of_length_le (by omega), List.take_of_length_le (by have := HN.out; omega)] at this⟩
        go_wp2
        repeat (go_quiet (fail); try go_wp2)
        go_ret
        exact ⟨by rw [decide_eq_true HQ.out]; rfl, ⟨⟨_, rfl⟩⟩⟩
  · have HN := Aside0.mk hlen
    have e1 : ((l0.length : Int) != (l1.length : Int)) = true := bne_iff_ne.mpr (by omega)
    have e2 : (l0.length != l1.length) = true := bne_iff_ne.mpr hlen
    clear hlen
    go_enter Try.func55, Try.ntmps55
    go_wp2
    repeat (go_quiet (fail); try go_wp2)
    go_ret
    exact ⟨by rw [decide_eq_false (fun e => HN.out (by rw [e]))]; rfl, Drawn0.refl _⟩

def sameP (x y : S27) : Bool := decide (x.f0 = y.f0) && (decide (x.f1 = y.f1) && (decide (x.f2 = y.f2) && decide (x.f3 = y.f3)))
theorem sameP_iff (x y : S27) : sameP x y = true ↔ x = y := by
  cases x; cases y
  simp [sameP]

set_option maxHeartbeats 4000000 in
set_option maxRecDepth 100000 in
theorem same54_c (W : World) (p : Addr) (b0 b1 : Bool) (T0 T1 B0 B1 : List ByteArray) (S0 S1 : List (List ByteArray)) (a1 a2 a3 e1 e2 e3 : Option Addr) (c1 c2 c3 d1 d2 d3 : Nat)
    (hp : W.cell? p = some (.func (.func 52) #[] #[])) (hpl : p.block < W.heap.size)
    (ha1 : Kd.C Kd.string W a1 T0.length T0) (la1 : T0.length ≤ c1) (ha2 : Kd.C Kd.string W a2 B0.length B0) (la2 : B0.length ≤ c2) (ha3 : Kd.C (Kd.slice 9 Kd.string) W a3 S0.length S0) (la3 : S0.length ≤ c3)
    (he1 : Kd.C Kd.string W e1 T1.length T1) (le1 : T1.length ≤ d1) (he2 : Kd.C Kd.string W e2 B1.length B1) (le2 : B1.length ≤ d2) (he3 : Kd.C (Kd.slice 9 Kd.string) W e3 S1.length S1) (le3 : S1.length ≤ d3) :
    Calls Try.prog 54 #[.agg #[.bool b0, .slice a1 T0.length c1, .slice a2 B0.length c2, .slice a3 S0.length c3], .agg #[.bool b1, .slice e1 T1.length d1, .slice e2 B1.length d2, .slice e3 S1.length d3], .pointer (some p)] W
      fun e w' => e = .returned (.bool (sameP ⟨b0, T0, B0, S0⟩ ⟨b1, T1, B1, S1⟩)) ∧ Below W.heap.size W w' := by
  obtain ⟨W2, hW2⟩ : ∃ W2, (W.alloc (.cells #[.bool b0, .slice a1 T0.length c1, .slice a2 B0.length c2, .slice a3 S0.length c3] 27)).alloc (.cells #[.bool b1, .slice e1 T1.length d1, .slice e2 B1.length d2, .slice e3 S1.length d3] 27) = W2 := ⟨_, rfl⟩
  have hBW : Below W.heap.size W W2 := by rw [← hW2]; exact below_alloc (below_alloc (Below.refl _ _) _) _
  have HB := Aside0.mk hBW
  have HA1 := Aside0.mk (Kd.C_below ha1 hBW)
  have HA2 := Aside0.mk (Kd.C_below ha2 hBW)
  have HA3 := Aside0.mk (Kd.C_below ha3 hBW)
  have HE1 := Aside0.mk (Kd.C_below he1 hBW)
  have HE2 := Aside0.mk (Kd.C_below he2 hBW)
  have HE3 := Aside0.mk (Kd.C_below he3 hBW)
  have L := Aside0.mk (And.intro la1 (And.intro la2 (And.intro la3 (And.intro le1 (And.intro le2 le3)))))
  have hp2 : W2.cell? p = some (.func (.func 52) #[] #[]) := (hBW.cell hpl).trans hp
  have hq0 : W2.heap[W.heap.size]? = some (.cells #[.bool b0, .slice a1 T0.length c1, .slice a2 B0.length c2, .slice a3 S0.length c3] 27 (0, 0)) := by
    rw [← hW2]; exact blk_later (Go.heap_alloc_new W _) (below_alloc (Below.refl _ _) _)
  have hq1 : W2.heap[W.heap.size + 1]? = some (.cells #[.bool b1, .slice e1 T1.length d1, .slice e2 B1.length d2, .slice e3 S1.length d3] 27 (0, 0)) := by
    rw [← hW2]
    have := Go.heap_alloc_new (W.alloc (.cells #[.bool b0, .slice a1 T0.length c1, .slice a2 B0.length c2, .slice a3 S0.length c3] 27)) (.cells #[.bool b1, .slice e1 T1.length d1, .slice e2 B1.length d2, .slice e3 S1.length d3] 27)
    rw [World.size_alloc] at this
    exact this
  have k00 := blk_cell hq0 0
  have k01 := blk_cell hq0 1
  have k02 := blk_cell hq0 2
  have k03 := blk_cell hq0 3
  have k10 := blk_cell hq1 0
  have k11 := blk_cell hq1 1
  have k12 := blk_cell hq1 2
  have k13 := blk_cell hq1 3
  simp only [List.getElem?_toArray, List.getElem?_cons_zero, List.getElem?_cons_succ] at k00 k01 k02 k03 k10 k11 k12 k13
  clear ha1 ha2 ha3 he1 he2 he3 la1 la2 la3 le1 le2 le3 hBW hq0 hq1 hp
  have key : Aside0 (sameP ⟨b0, T0, B0, S0⟩ ⟨b1, T1, B1, S1⟩ = (decide (b0 = b1) && (decide (T0 = T1) && (decide (B0 = B1) && decide (S0 = S1))))) := ⟨rfl⟩
  obtain ⟨s3, h3⟩ : ∃ s3, s3 = decide (S0 = S1) := ⟨_, rfl⟩
  obtain ⟨s1, h1⟩ : ∃ s1, s1 = decide (T0 = T1) := ⟨_, rfl⟩
  obtain ⟨s2, h2⟩ : ∃ s2, s2 = decide (B0 = B1) := ⟨_, rfl⟩
  rw [key.out, ← h1, ← h2, ← h3]
  have H1 := Aside0.mk h1
  have H2 := Aside0.mk h2
  have H3 := Aside0.mk h3
  clear h1 h2 h3 key
  cases b0 <;> cases b1 <;> cases s1 <;> cases s2
  all_goals
    go_enter Try.func54, Try.ntmps54
    go_wp2_with (first
      | (go_at_call 55; (with_reducible refine (equal55_c _ a3 c3 S0 e3 d3 S1 HA3.out L.out.2.2.1 HE3.out L.out.2.2.2.2.2).mono ?_); rintro e w' ⟨he, ⟨nd, rfl⟩⟩; rw [← H3.out] at he; subst he)
      | (go_at_call 52; (with_reducible refine (equal52_c T0 T1 a1 c1 e1 d1 _ ?sa ?sb ?sc ?sd).mono ?_); (case sa => with_reducible exact Kd.C_drewN HA1.out _); (case sb => exact L.out.1); (case sc => with_reducible exact Kd.C_drewN HE1.out _); (case sd => exact L.out.2.2.2.1); rintro e w' ⟨he, ⟨nd1, rfl⟩⟩; rw [← H1.out] at he; subst he)
      | (go_at_call 52; (with_reducible refine (equal52_c B0 B1 a2 c2 e2 d2 _ ?sa ?sb ?sc ?sd).mono ?_); (case sa => with_reducible exact Kd.C_drewN HA2.out _); (case sb => exact L.out.2.1); (case sc => with_reducible exact Kd.C_drewN HE2.out _); (case sd => exact L.out.2.2.2.2.1); rintro e w' ⟨he, ⟨nd2, rfl⟩⟩; rw [← H2.out] at he; subst he))
    go_ret
    exact ⟨by first | rfl | simp, by repeat (first | exact HB.out | apply pw_below_drewN)⟩

end Go.Proofs.Ytiaoppikdgoieaa.M
