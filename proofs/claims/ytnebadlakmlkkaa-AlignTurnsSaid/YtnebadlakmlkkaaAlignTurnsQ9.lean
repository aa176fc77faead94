/- Texts of the claim AlignTurns, put together (part 9): By a program of this session: a Go function as a Lean function, and that the machine's call does what it says. Layer 5, plain: the chunks of matches cover all, take turns, and pair as the matches do; there is one such list. -/
import Derived.ArgAppend
import Derived.Below
import Derived.BigQuiet
import Derived.Deep.AppendLies
import Derived.Deep.CutBlock
import Derived.Deep.DeepCutAuto
import Derived.Deep.DrawnRows
import Derived.Deep.Draws
import Derived.Deep.LoopGhost
import Derived.Deep.OwnRows
import Derived.Deep.QuietTactic
import Derived.Deep.RegionHeld3
import Derived.KernelRfl
import Derived.Laws.BitsLemmas
import Derived.Laws.BytesArg
import Derived.Laws.IdiomCopy
import Derived.Laws.MakeOwn
import Derived.Laws.OwnMore
import Derived.Laws.Rows
import Derived.Laws.Slices
import Derived.Laws.StructEq
import Derived.Lib.AppendStr
import Derived.Lib.ConvBytes
import Derived.Maps.AppendAt
import Derived.OrdersHeld
import Derived.OwnWalk
import Derived.RowKit
import Derived.RowKit3
import Derived.Tactics
import Derived.Test.YtnebadlakmlkkaaProg
import Derived.WalkKit
import Derived.WalkMore
import Derived.WideLaws
import Derived.Test.YtnebadlakmlkkaaAlignTurnsQ8
namespace Go.Proofs.Ytnebadlakmlkkaa.M
open Go.RowKit Go.Proofs.YtnebadlakmlkkaaW.PrintWords Go.Proofs.YtnebadlakmlkkaaW.PrintLast Go.Proofs.YtnebadlakmlkkaaW.PrintMore Go.Proofs.Ytnebadlakmlkkaa.Hand
attribute [local go_sem] max2_int min2_int max_two min_two max_three min_three max_four min_four
set_option linter.unusedVariables false
set_option linter.unusedSimpArgs false

attribute [local go_sem high] eqA36
/-! ### sennitlaw05_AlignTurns: function 6 -/
mutual
def sennitlaw05_AlignTurns.j0 : Nat → List (List Int) → Bool → Int → List (S39) → List (S39) → List (S39) → Bool → Option (Bool)
 | 0, _, _, _, _, _, _, _ => none
 | k + 1, x1, x7, x8, x10, x11, x12, x63 => if x63 = true then (none) else (sennitlaw05_AlignTurns.l0 k x1 x7 x8 x10 x11 x12 0)
def sennitlaw05_AlignTurns.l0 : Nat → List (List Int) → Bool → Int → List (S39) → List (S39) → List (S39) → Int → Option (Bool)
 | 0, _, _, _, _, _, _, _ => none
 | k + 1, x1, x7, x8, x10, x11, x12, x13 => if x13 < (x10.length : Int) then (if 0 ≤ x13 then (if (((rd_T39 x10 x13).f2).length : Int) = (x1.length : Int) then (if x13 < (x11.length : Int) then (if (((rd_T39 x11 x13).f2).length : Int) = (x1.length : Int) then (if x13 < (x12.length : Int) then (if (((rd_T39 x12 x13).f2).length : Int) = (wrap64 ((x1.length : Int) + 1)) then (if (!(((rd_T39 x10 x13).f1.f0) == ((rd_T39 x11 x13).f1.f0)) || (!(((rd_T39 x10 x13).f1.f1) == ((rd_T39 x11 x13).f1.f1)))) = true then (sennitlaw05_AlignTurns.j2 k x1 x7 x8 x10 x11 x12 x13 true) else (if (!(((rd_T39 x10 x13).f1.f0) == ((rd_T39 x12 x13).f1.f0)) || (!(((rd_T39 x10 x13).f1.f1) == ((rd_T39 x12 x13).f1.f1)))) = true then (sennitlaw05_AlignTurns.j2 k x1 x7 x8 x10 x11 x12 x13 true) else (if (((rd_T39 x10 x13).f0) != ((rd_T39 x11 x13).f0)) = true then (sennitlaw05_AlignTurns.j2 k x1 x7 x8 x10 x11 x12 x13 true) else (sennitlaw05_AlignTurns.j2 k x1 x7 x8 x10 x11 x12 x13 (((rd_T39 x10 x13).f0) != ((rd_T39 x12 x13).f0)))))) else (sennitlaw05_AlignTurns.j2 k x1 x7 x8 x10 x11 x12 x13 true)) else (none)) else (sennitlaw05_AlignTurns.j2 k x1 x7 x8 x10 x11 x12 x13 true)) else (none)) else (sennitlaw05_AlignTurns.j2 k x1 x7 x8 x10 x11 x12 x13 true)) else (none)) else (some x7)
def sennitlaw05_AlignTurns.j2 : Nat → List (List Int) → Bool → Int → List (S39) → List (S39) → List (S39) → Int → Bool → Option (Bool)
 | 0, _, _, _, _, _, _, _, _ => none
 | k + 1, x1, x7, x8, x10, x11, x12, x13, x153 => if x153 = true then (none) else (sennitlaw05_AlignTurns.l1 k x1 x7 x8 x10 x11 x12 x13 0)
def sennitlaw05_AlignTurns.l1 : Nat → List (List Int) → Bool → Int → List (S39) → List (S39) → List (S39) → Int → Int → Option (Bool)
 | 0, _, _, _, _, _, _, _, _ => none
 | k + 1, x1, x7, x8, x10, x11, x12, x13, x14 => if x14 < (x1.length : Int) then (if 0 ≤ x13 then (if x13 < (x11.length : Int) then (if 0 ≤ x14 then (if x14 < (((rd_T39 x11 x13).f2).length : Int) then (if x13 < (x10.length : Int) then (if (x1.length : Int) = 0 then (none) else (if 0 ≤ (Int.tmod (wrap64 (x14 + x8)) (x1.length : Int)) then (if (Int.tmod (wrap64 (x14 + x8)) (x1.length : Int)) < (((rd_T39 x10 x13).f2).length : Int) then (if (!(((rd_T36 ((rd_T39 x11 x13).f2) x14).f0) == ((rd_T36 ((rd_T39 x10 x13).f2) (Int.tmod (wrap64 (x14 + x8)) (x1.length : Int))).f0)) || (!(((rd_T36 ((rd_T39 x11 x13).f2) x14).f1) == ((rd_T36 ((rd_T39 x10 x13).f2) (Int.tmod (wrap64 (x14 + x8)) (x1.length : Int))).f1)))) = true then (none) else (if x13 < (x12.length : Int) then (if x14 < (((rd_T39 x12 x13).f2).length : Int) then (if x14 < (((rd_T39 x10 x13).f2).length : Int) then (if (!(((rd_T36 ((rd_T39 x12 x13).f2) x14).f0) == ((rd_T36 ((rd_T39 x10 x13).f2) x14).f0)) || (!(((rd_T36 ((rd_T39 x12 x13).f2) x14).f1) == ((rd_T36 ((rd_T39 x10 x13).f2) x14).f1)))) = true then (none) else (sennitlaw05_AlignTurns.l1 k x1 x7 x8 x10 x11 x12 x13 (wrap64 (x14 + 1)))) else (none)) else (none)) else (none))) else (none)) else (none))) else (none)) else (none)) else (none)) else (none)) else (none)) else (sennitlaw05_AlignTurns.l0 k x1 x7 x8 x10 x11 x12 (wrap64 (x13 + 1)))
end
def sennitlaw05_AlignTurns.f (k : Nat) (l0 : List Int) (l1 : List (List Int)) (a2 : Int) : Option (Bool) := (sennitlaw05_awake.f k).bind fun t312 => ((sennitref05_Few.f k l0 l1).bind fun t313 => (if t313 = true then (if (l1.length : Int) = 0 then (none) else ((some (([] : List (List Int)) : List (List Int))).bind fun y314 => (if 0 ≤ (Int.tmod (wrap64 (a2)) (l1.length : Int)) then (if (Int.tmod (wrap64 (a2)) (l1.length : Int)) ≤ (l1.length : Int) then ((some (l1.drop ((Int.tmod (wrap64 (a2)) (l1.length : Int)) : Int).toNat : List (List Int))).bind fun y317 => (if y314.length + y317.length < 5864062014805 then ((some (y314 ++ y317 : List (List Int))).bind fun y322 => ((some (l1.take ((Int.tmod (wrap64 (a2)) (l1.length : Int)) : Int).toNat : List (List Int))).bind fun y325 => (if y322.length + y325.length < 5864062014805 then ((sennitlaw05_cut.f k l0 l1).bind fun t333 => ((sennitlaw05_cut.f k l0 (y322 ++ y325)).bind fun t336 => ((some (([] : List (List Int)) : List (List Int))).bind fun y339 => (if y339.length + l1.length < 5864062014805 then ((some (y339 ++ l1 : List (List Int))).bind fun y342 => (if (Int.tmod (wrap64 (a2)) (l1.length : Int)) < (l1.length : Int) then ((some (([rd_L9 l1 (Int.tmod (wrap64 (a2)) (l1.length : Int))] : List (List Int)) : List (List Int))).bind fun y346 => (if y342.length + y346.length < 5864062014805 then ((sennitlaw05_cut.f k l0 (y342 ++ y346)).bind fun t352 => (if (t333.length : Int) = (t336.length : Int) then (sennitlaw05_AlignTurns.j0 k l1 t312 (Int.tmod (wrap64 (a2)) (l1.length : Int)) t333 t336 t352 ((t333.length : Int) != (t352.length : Int))) else (sennitlaw05_AlignTurns.j0 k l1 t312 (Int.tmod (wrap64 (a2)) (l1.length : Int)) t333 t336 t352 true))) else (none))) else (none))) else (none))))) else (none)))) else (none))) else (none)) else (none)))) else (some t312)))
theorem sennitlaw05_AlignTurns.j0_no (k_ : Nat) {x0 : List (List Int)} {x1 : Bool} {x2 : Int} {x3 : List (S39)} {x4 : List (S39)} {x5 : List (S39)} {r : Bool} (h : sennitlaw05_AlignTurns.j0 k_ x0 x1 x2 x3 x4 x5 true = some r) : False := by cases k_ <;> simp [sennitlaw05_AlignTurns.j0] at h
theorem sennitlaw05_AlignTurns.j2_no (k_ : Nat) {x0 : List (List Int)} {x1 : Bool} {x2 : Int} {x3 : List (S39)} {x4 : List (S39)} {x5 : List (S39)} {x6 : Int} {r : Bool} (h : sennitlaw05_AlignTurns.j2 k_ x0 x1 x2 x3 x4 x5 x6 true = some r) : False := by cases k_ <;> simp [sennitlaw05_AlignTurns.j2] at h
theorem sennitlaw05_AlignTurns.mono_l : ∀ k, (∀ y0 y1 y2 y3 y4 y5 y6, LeO (sennitlaw05_AlignTurns.j0 k y0 y1 y2 y3 y4 y5 y6) (sennitlaw05_AlignTurns.j0 (k + 1) y0 y1 y2 y3 y4 y5 y6)) ∧ (∀ y0 y1 y2 y3 y4 y5 y6, LeO (sennitlaw05_AlignTurns.l0 k y0 y1 y2 y3 y4 y5 y6) (sennitlaw05_AlignTurns.l0 (k + 1) y0 y1 y2 y3 y4 y5 y6)) ∧ (∀ y0 y1 y2 y3 y4 y5 y6 y7, LeO (sennitlaw05_AlignTurns.j2 k y0 y1 y2 y3 y4 y5 y6 y7) (sennitlaw05_AlignTurns.j2 (k + 1) y0 y1 y2 y3 y4 y5 y6 y7)) ∧ (∀ y0 y1 y2 y3 y4 y5 y6 y7, LeO (sennitlaw05_AlignTurns.l1 k y0 y1 y2 y3 y4 y5 y6 y7) (sennitlaw05_AlignTurns.l1 (k + 1) y0 y1 y2 y3 y4 y5 y6 y7))
 | 0 => ⟨fun _ _ _ _ _ _ _ r h => by simp [sennitlaw05_AlignTurns.j0] at h, fun _ _ _ _ _ _ _ r h => by simp [sennitlaw05_AlignTurns.l0] at h, fun _ _ _ _ _ _ _ _ r h => by simp [sennitlaw05_AlignTurns.j2] at h, fun _ _ _ _ _ _ _ _ r h => by simp [sennitlaw05_AlignTurns.l1] at h⟩
 | k + 1 => by
  obtain ⟨ih0, ih1, ih2, ih3⟩ := sennitlaw05_AlignTurns.mono_l k
  refine ⟨?_, ?_, ?_, ?_⟩
  ·intro y0 y1 y2 y3 y4 y5 y6
   unfold sennitlaw05_AlignTurns.j0
   repeat' first
   | (with_reducible exact ih0 _ _ _ _ _ _ _)
   | (with_reducible exact ih1 _ _ _ _ _ _ _)
   | (with_reducible exact ih2 _ _ _ _ _ _ _ _)
   | (with_reducible exact ih3 _ _ _ _ _ _ _ _)
   | (with_reducible exact sennitlaw05_awake.mono _)
   | (with_reducible exact sennitlaw05_cut.mono _ _ _)
   | (with_reducible exact sennitref05_Few.mono _ _ _)
   | (with_reducible exact LeO.refl _)
   | (with_reducible exact LeO.none _)
   | (with_reducible refine LeO.ite ?_ ?_)
   | (with_reducible refine LeO.bind ?_ (fun _ => ?_))
   | exact ih0 _ _ _ _ _ _ _
   | exact ih1 _ _ _ _ _ _ _
   | exact ih2 _ _ _ _ _ _ _ _
   | exact ih3 _ _ _ _ _ _ _ _
   | exact sennitlaw05_awake.mono _
   | exact sennitlaw05_cut.mono _ _ _
   | exact sennitref05_Few.mono _ _ _
   | exact LeO.none _
   | refine LeO.ite ?_ ?_
   | refine LeO.bind ?_ (fun _ => ?_)
  ·intro y0 y1 y2 y3 y4 y5 y6
   unfold sennitlaw05_AlignTurns.l0
   repeat' first
   | (with_reducible exact ih0 _ _ _ _ _ _ _)
   | (with_reducible exact ih1 _ _ _ _ _ _ _)
   | (with_reducible exact ih2 _ _ _ _ _ _ _ _)
   | (with_reducible exact ih3 _ _ _ _ _ _ _ _)
   | (with_reducible exact sennitlaw05_awake.mono _)
   | (with_reducible exact sennitlaw05_cut.mono _ _ _)
   | (with_reducible exact sennitref05_Few.mono _ _ _)
   | (with_reducible exact LeO.refl _)
   | (with_reducible exact LeO.none _)
   | (with_reducible refine LeO.ite ?_ ?_)
   | (with_reducible refine LeO.bind ?_ (fun _ => ?_))
   | exact ih0 _ _ _ _ _ _ _
   | exact ih1 _ _ _ _ _ _ _
   | exact ih2 _ _ _ _ _ _ _ _
   | exact ih3 _ _ _ _ _ _ _ _
   | exact sennitlaw05_awake.mono _
   | exact sennitlaw05_cut.mono _ _ _
   | exact sennitref05_Few.mono _ _ _
   | exact LeO.none _
   | refine LeO.ite ?_ ?_
   | refine LeO.bind ?_ (fun _ => ?_)
  ·intro y0 y1 y2 y3 y4 y5 y6 y7
   unfold sennitlaw05_AlignTurns.j2
   repeat' first
   | (with_reducible exact ih0 _ _ _ _ _ _ _)
   | (with_reducible exact ih1 _ _ _ _ _ _ _)
   | (with_reducible exact ih2 _ _ _ _ _ _ _ _)
   | (with_reducible exact ih3 _ _ _ _ _ _ _ _)
   | (with_reducible exact sennitlaw05_awake.mono _)
   | (with_reducible exact sennitlaw05_cut.mono _ _ _)
   | (with_reducible exact sennitref05_Few.mono _ _ _)
   | (with_reducible exact LeO.refl _)
   | (with_reducible exact LeO.none _)
   | (with_reducible refine LeO.ite ?_ ?_)
   | (with_reducible refine LeO.bind ?_ (fun _ => ?_))
   | exact ih0 _ _ _ _ _ _ _
   | exact ih1 _ _ _ _ _ _ _
   | exact ih2 _ _ _ _ _ _ _ _
   | exact ih3 _ _ _ _ _ _ _ _
   | exact sennitlaw05_awake.mono _
   | exact sennitlaw05_cut.mono _ _ _
   | exact sennitref05_Few.mono _ _ _
   | exact LeO.none _
   | refine LeO.ite ?_ ?_
   | refine LeO.bind ?_ (fun _ => ?_)
  ·intro y0 y1 y2 y3 y4 y5 y6 y7
   unfold sennitlaw05_AlignTurns.l1
   repeat' first
   | (with_reducible exact ih0 _ _ _ _ _ _ _)
   | (with_reducible exact ih1 _ _ _ _ _ _ _)
   | (with_reducible exact ih2 _ _ _ _ _ _ _ _)
   | (with_reducible exact ih3 _ _ _ _ _ _ _ _)
   | (with_reducible exact sennitlaw05_awake.mono _)
   | (with_reducible exact sennitlaw05_cut.mono _ _ _)
   | (with_reducible exact sennitref05_Few.mono _ _ _)
   | (with_reducible exact LeO.refl _)
   | (with_reducible exact LeO.none _)
   | (with_reducible refine LeO.ite ?_ ?_)
   | (with_reducible refine LeO.bind ?_ (fun _ => ?_))
   | exact ih0 _ _ _ _ _ _ _
   | exact ih1 _ _ _ _ _ _ _
   | exact ih2 _ _ _ _ _ _ _ _
   | exact ih3 _ _ _ _ _ _ _ _
   | exact sennitlaw05_awake.mono _
   | exact sennitlaw05_cut.mono _ _ _
   | exact sennitref05_Few.mono _ _ _
   | exact LeO.none _
   | refine LeO.ite ?_ ?_
   | refine LeO.bind ?_ (fun _ => ?_)
theorem sennitlaw05_AlignTurns.mono : ∀ a0 a1 a2 k, LeO (sennitlaw05_AlignTurns.f k a0 a1 a2) (sennitlaw05_AlignTurns.f (k + 1) a0 a1 a2) := by
 intro a0 a1 a2 k
 obtain ⟨ih0, ih1, ih2, ih3⟩ := sennitlaw05_AlignTurns.mono_l k
 unfold sennitlaw05_AlignTurns.f
 repeat' first
   | (with_reducible exact ih0 _ _ _ _ _ _ _)
   | (with_reducible exact ih1 _ _ _ _ _ _ _)
   | (with_reducible exact ih2 _ _ _ _ _ _ _ _)
   | (with_reducible exact ih3 _ _ _ _ _ _ _ _)
   | (with_reducible exact sennitlaw05_awake.mono _)
   | (with_reducible exact sennitlaw05_cut.mono _ _ _)
   | (with_reducible exact sennitref05_Few.mono _ _ _)
   | (with_reducible exact LeO.refl _)
   | (with_reducible exact LeO.none _)
   | (with_reducible refine LeO.ite ?_ ?_)
   | (with_reducible refine LeO.bind ?_ (fun _ => ?_))
   | exact ih0 _ _ _ _ _ _ _
   | exact ih1 _ _ _ _ _ _ _
   | exact ih2 _ _ _ _ _ _ _ _
   | exact ih3 _ _ _ _ _ _ _ _
   | exact sennitlaw05_awake.mono _
   | exact sennitlaw05_cut.mono _ _ _
   | exact sennitref05_Few.mono _ _ _
   | exact LeO.none _
   | refine LeO.ite ?_ ?_
   | refine LeO.bind ?_ (fun _ => ?_)
def sennitlaw05_AlignTurns.T5 : Bool × List (List Nat × List Nat) := (true, [([], []), ([], []), ([], []), ([1, 2], [1, 2]), ([0, 3], [0, 3]), ([], []), ([], []), ([5, 6], [5, 6]), ([4, 7, 4], [4, 7]), ([8, 8, 0, 1, 2, 3, 4, 5, 6, 7, 8], [8])])
def sennitlaw05_AlignTurns.B5 : List Nat := [0, 0, 0, 6, 15, 0, 0, 96, 255, 511]
theorem sennitlaw05_AlignTurns.tab5 : rtab .any (opsOf Try.f6 5) = sennitlaw05_AlignTurns.T5 := by kernel_rfl
theorem sennitlaw05_AlignTurns.bits5 : waitsOk sennitlaw05_AlignTurns.T5.2 sennitlaw05_AlignTurns.B5 = true := by kernel_rfl
def sennitlaw05_AlignTurns.T8 : Bool × List (List Nat × List Nat) := (true, [([], []), ([], []), ([], []), ([1, 2], [1, 2]), ([], []), ([], []), ([4, 5], [4, 5]), ([6], [6]), ([7], [7]), ([3, 8, 3], [3, 8]), ([0, 9, 9], [0, 9]), ([10, 10, 0, 1, 2, 3, 4, 5, 6, 7, 8, 9, 10], [10])])
def sennitlaw05_AlignTurns.B8 : List Nat := [0, 0, 0, 6, 0, 0, 48, 112, 240, 510, 1023, 2047]
theorem sennitlaw05_AlignTurns.tab8 : rtab .any (opsOf Try.f6 8) = sennitlaw05_AlignTurns.T8 := by kernel_rfl
theorem sennitlaw05_AlignTurns.bits8 : waitsOk sennitlaw05_AlignTurns.T8.2 sennitlaw05_AlignTurns.B8 = true := by kernel_rfl
def sennitlaw05_AlignTurns.T14 : Bool × List (List Nat × List Nat) := (true, [([], []), ([], []), ([0, 1], [0, 1]), ([2], [2]), ([3], [3]), ([4], [4]), ([], []), ([6], [6]), ([5, 7], [5, 7]), ([8], [8]), ([9], [9]), ([9], [9]), ([10, 11, 9], [9, 10, 11]), ([12, 9], [9, 12]), ([13, 9], [9, 13]), ([14, 9], [9, 14]), ([9], [9]), ([16, 9], [9, 16]), ([15, 17, 9], [9, 15, 17]), ([9, 18], [9, 18]), ([19, 9], [19]), ([20], [20]), ([20], [20]), ([21, 22, 20], [20, 21, 22]), ([23, 20], [20, 23]), ([24, 20], [20, 24]), ([25, 20], [20, 25]), ([20], [20]), ([27, 20], [20, 27]), ([28, 20], [20, 28]), ([26, 29, 20], [20, 26, 29]), ([20, 30], [20, 30]), ([31, 20], [31]), ([32], [32]), ([32], [32]), ([33, 34, 32], [32, 33, 34]), ([35, 32], [32, 35]), ([36, 32], [32, 36]), ([32], [32]), ([32], [32]), ([38, 39, 32], [32, 38, 39]), ([40, 32], [32, 40]), ([41, 32], [32, 41]), ([37, 42, 32], [32, 37, 42]), ([32, 43], [32, 43]), ([44, 32], [44]), ([45], [45]), ([45], [45]), ([46, 47, 45], [45, 46, 47]), ([48, 45], [45, 48]), ([49, 45], [45, 49]), ([45], [45]), ([45], [45]), ([51, 52, 45], [45, 51, 52]), ([53, 45], [45, 53]), ([54, 45], [45, 54]), ([50, 55, 45], [45, 50, 55]), ([45, 56], [45, 56]), ([57, 45], [57]), ([58], [58]), ([58], [58]), ([59, 60, 58], [58, 59, 60]), ([61, 58], [58, 61]), ([62, 58], [58, 62]), ([58], [58]), ([58], [58]), ([64, 65, 58], [58, 64, 65]), ([66, 58], [58, 66]), ([67, 58], [58, 67]), ([63, 68, 58], [58, 63, 68]), ([58, 69], [58, 69]), ([70, 58], [70]), ([71], [71]), ([71], [71]), ([72, 73, 71], [71, 72, 73]), ([74, 71], [71, 74]), ([75, 71], [71, 75]), ([71], [71]), ([71], [71]), ([77, 78, 71], [71, 77, 78]), ([79, 71], [71, 79]), ([80, 71], [71, 80]), ([76, 81, 71], [71, 76, 81]), ([71, 82], [71, 82])])
def sennitlaw05_AlignTurns.B14 : List Nat := [0, 0, 3, 7, 15, 31, 0, 64, 255, 511, 1023, 1023, 4095, 8191, 16383, 32767, 1023, 66559, 262143, 524287, 1048575, 2097151, 2097151, 8388607, 16777215, 33554431, 67108863, 2097151, 136314879, 404750335, 1073741823, 2147483647, 4294967295, 8589934591, 8589934591, 34359738367, 68719476735, 137438953471, 8589934591, 8589934591, 833223655423, 1932735283199, 4131758538751, 8796093022207, 17592186044415, 35184372088831, 70368744177663, 70368744177663, 281474976710655, 562949953421311, 1125899906842623, 70368744177663, 70368744177663, 6825768185233407, 15832967439974399, 33847365949456383, 72057594037927935, 144115188075855871, 288230376151711743, 576460752303423487, 576460752303423487, 2305843009213693951, 4611686018427387903, 9223372036854775807, 576460752303423487, 576460752303423487, 55916692973432078335, 129703669268270284799, 277277621857946697727, 590295810358705651711, 1180591620717411303423, 2361183241434822606847, 4722366482869645213695, 4722366482869645213695, 18889465931478580854783, 37778931862957161709567, 75557863725914323419135, 4722366482869645213695, 4722366482869645213695, 458069548838355585728511, 1062532458645670173081599, 2271458278260299347787775, 4835703278458516698824703, 9671406556917033397649407]
theorem sennitlaw05_AlignTurns.tab14 : rtab .any (opsOf Try.f6 14) = sennitlaw05_AlignTurns.T14 := by kernel_rfl
theorem sennitlaw05_AlignTurns.bits14 : waitsOk sennitlaw05_AlignTurns.T14.2 sennitlaw05_AlignTurns.B14 = true := by kernel_rfl
def sennitlaw05_AlignTurns.T19 : Bool × List (List Nat × List Nat) := (true, [([], []), ([], []), ([0, 1], [0, 1]), ([2], [2]), ([3], [3]), ([], []), ([4, 5], [4, 5]), ([6], [6]), ([], []), ([], []), ([8, 9], [8, 9]), ([10], [10]), ([11], [11]), ([], []), ([], []), ([13, 14], [13, 14]), ([], []), ([16], [16]), ([15, 17], [15, 17]), ([12, 18], [12, 18]), ([19], [19]), ([7, 20], [7, 20]), ([21], [21]), ([22], [22]), ([22], [22]), ([23, 24, 22], [22, 23, 24]), ([25, 22], [22, 25]), ([26, 22], [22, 26]), ([22], [22]), ([27, 28, 22], [22, 27, 28]), ([29, 22], [22, 29]), ([22], [22]), ([22], [22]), ([31, 32, 22], [22, 31, 32]), ([33, 22], [22, 33]), ([34, 22], [22, 34]), ([22], [22]), ([35, 36, 22], [22, 35, 36]), ([37, 22], [22, 37]), ([30, 38, 22], [22, 30, 38]), ([22, 39], [22, 39])])
def sennitlaw05_AlignTurns.B19 : List Nat := [0, 0, 3, 7, 15, 0, 63, 127, 0, 0, 768, 1792, 3840, 0, 0, 24576, 0, 65536, 253952, 524032, 1048320, 2097151, 4194303, 8388607, 8388607, 33554431, 67108863, 134217727, 8388607, 536870911, 1073741823, 8388607, 8388607, 6450839551, 15040774143, 32220643327, 8388607, 135299858431, 272738811903, 549755813887, 1099511627775]
theorem sennitlaw05_AlignTurns.tab19 : rtab .any (opsOf Try.f6 19) = sennitlaw05_AlignTurns.T19 := by kernel_rfl
theorem sennitlaw05_AlignTurns.bits19 : waitsOk sennitlaw05_AlignTurns.T19.2 sennitlaw05_AlignTurns.B19 = true := by kernel_rfl
set_option maxHeartbeats 8000000 in
set_option maxRecDepth 100000 in
theorem sennitlaw05_AlignTurns.calls (k : Nat) (A0 : Option Addr) (c0 : Nat) (l0 : List Int) (P1_ : Nat → Prop) (A1 : Option Addr) (c1 : Nat) (l1 : List (List Int)) (a2 : Int) (r : Bool) (w : World) (hr0 : Kd.C (Kd.int .u8) w A0 l0.length l0) (hc0 : l0.length ≤ c0) (hs1 : Kd.V (Kd.slice 5 (Kd.int .u8)) 22 w w.heap.size (fun k_ => P1_ k_) (.slice A1 l1.length c1) l1) (h : sennitlaw05_AlignTurns.f k l0 l1 a2 = some r) :
  Calls Try.prog 6 #[.slice A0 l0.length c0, .slice A1 l1.length c1, .int .u8 a2] w fun e w' => e = .returned (.bool r) ∧ Below w.heap.size w w' := by
 have hu36 := Try.underlying36
 have HR0 := am hr0
 have HC0 := am hc0
 clear hr0 hc0
 have HO1 := am (show Kd.V (Kd.slice 5 (Kd.int .u8)) 22 w w.heap.size (fun k_ => (P1_ k_ ∨ w.heap.size ≤ k_)) (.slice A1 l1.length c1) l1 from Kd.V_mono hs1 (fun k_ hk => .inl hk))
 have HB := am (Below.refl w.heap.size w)
 have H : ((sennitlaw05_awake.f k).bind fun t312 => ((sennitref05_Few.f k l0 l1).bind fun t313 => (if t313 = true then (if (l1.length : Int) = 0 then (none) else ((some (([] : List (List Int)) : List (List Int))).bind fun y314 => (if 0 ≤ (Int.tmod (wrap64 (a2)) (l1.length : Int)) then (if (Int.tmod (wrap64 (a2)) (l1.length : Int)) ≤ (l1.length : Int) then ((some (l1.drop ((Int.tmod (wrap64 (a2)) (l1.length : Int)) : Int).toNat : List (List Int))).bind fun y317 => (if y314.length + y317.length < 5864062014805 then ((some (y314 ++ y317 : List (List Int))).bind fun y322 => ((some (l1.take ((Int.tmod (wrap64 (a2)) (l1.length : Int)) : Int).toNat : List (List Int))).bind fun y325 => (if y322.length + y325.length < 5864062014805 then ((sennitlaw05_cut.f k l0 l1).bind fun t333 => ((sennitlaw05_cut.f k l0 (y322 ++ y325)).bind fun t336 => ((some (([] : List (List Int)) : List (List Int))).bind fun y339 => (if y339.length + l1.length < 5864062014805 then ((some (y339 ++ l1 : List (List Int))).bind fun y342 => (if (Int.tmod (wrap64 (a2)) (l1.length : Int)) < (l1.length : Int) then ((some (([rd_L9 l1 (Int.tmod (wrap64 (a2)) (l1.length : Int))] : List (List Int)) : List (List Int))).bind fun y346 => (if y342.length + y346.length < 5864062014805 then ((sennitlaw05_cut.f k l0 (y342 ++ y346)).bind fun t352 => (if (t333.length : Int) = (t336.length : Int) then (sennitlaw05_AlignTurns.j0 k l1 t312 (Int.tmod (wrap64 (a2)) (l1.length : Int)) t333 t336 t352 ((t333.length : Int) != (t352.length : Int))) else (sennitlaw05_AlignTurns.j0 k l1 t312 (Int.tmod (wrap64 (a2)) (l1.length : Int)) t333 t336 t352 true))) else (none))) else (none))) else (none))))) else (none)))) else (none))) else (none)) else (none)))) else (some t312)))) = some r := h
 clear h
 replace H := Option.bind_eq_some_iff.mp H
 obtain ⟨t312, A40, H⟩ := H
 replace H : ((sennitref05_Few.f k l0 l1).bind fun t313 => (if t313 = true then (if (l1.length : Int) = 0 then (none) else ((some (([] : List (List Int)) : List (List Int))).bind fun y314 => (if 0 ≤ (Int.tmod (wrap64 (a2)) (l1.length : Int)) then (if (Int.tmod (wrap64 (a2)) (l1.length : Int)) ≤ (l1.length : Int) then ((some (l1.drop ((Int.tmod (wrap64 (a2)) (l1.length : Int)) : Int).toNat : List (List Int))).bind fun y317 => (if y314.length + y317.length < 5864062014805 then ((some (y314 ++ y317 : List (List Int))).bind fun y322 => ((some (l1.take ((Int.tmod (wrap64 (a2)) (l1.length : Int)) : Int).toNat : List (List Int))).bind fun y325 => (if y322.length + y325.length < 5864062014805 then ((sennitlaw05_cut.f k l0 l1).bind fun t333 => ((sennitlaw05_cut.f k l0 (y322 ++ y325)).bind fun t336 => ((some (([] : List (List Int)) : List (List Int))).bind fun y339 => (if y339.length + l1.length < 5864062014805 then ((some (y339 ++ l1 : List (List Int))).bind fun y342 => (if (Int.tmod (wrap64 (a2)) (l1.length : Int)) < (l1.length : Int) then ((some (([rd_L9 l1 (Int.tmod (wrap64 (a2)) (l1.length : Int))] : List (List Int)) : List (List Int))).bind fun y346 => (if y342.length + y346.length < 5864062014805 then ((sennitlaw05_cut.f k l0 (y342 ++ y346)).bind fun t352 => (if (t333.length : Int) = (t336.length : Int) then (sennitlaw05_AlignTurns.j0 k l1 t312 (Int.tmod (wrap64 (a2)) (l1.length : Int)) t333 t336 t352 ((t333.length : Int) != (t352.length : Int))) else (sennitlaw05_AlignTurns.j0 k l1 t312 (Int.tmod (wrap64 (a2)) (l1.length : Int)) t333 t336 t352 true))) else (none))) else (none))) else (none))))) else (none)))) else (none))) else (none)) else (none)))) else (some t312))) = some r := H
 have A4 := am A40
 clear A40
 replace H := Option.bind_eq_some_iff.mp H
 obtain ⟨t313, A50, H⟩ := H
 replace H : (if t313 = true then (if (l1.length : Int) = 0 then (none) else ((some (([] : List (List Int)) : List (List Int))).bind fun y314 => (if 0 ≤ (Int.tmod (wrap64 (a2)) (l1.length : Int)) then (if (Int.tmod (wrap64 (a2)) (l1.length : Int)) ≤ (l1.length : Int) then ((some (l1.drop ((Int.tmod (wrap64 (a2)) (l1.length : Int)) : Int).toNat : List (List Int))).bind fun y317 => (if y314.length + y317.length < 5864062014805 then ((some (y314 ++ y317 : List (List Int))).bind fun y322 => ((some (l1.take ((Int.tmod (wrap64 (a2)) (l1.length : Int)) : Int).toNat : List (List Int))).bind fun y325 => (if y322.length + y325.length < 5864062014805 then ((sennitlaw05_cut.f k l0 l1).bind fun t333 => ((sennitlaw05_cut.f k l0 (y322 ++ y325)).bind fun t336 => ((some (([] : List (List Int)) : List (List Int))).bind fun y339 => (if y339.length + l1.length < 5864062014805 then ((some (y339 ++ l1 : List (List Int))).bind fun y342 => (if (Int.tmod (wrap64 (a2)) (l1.length : Int)) < (l1.length : Int) then ((some (([rd_L9 l1 (Int.tmod (wrap64 (a2)) (l1.length : Int))] : List (List Int)) : List (List Int))).bind fun y346 => (if y342.length + y346.length < 5864062014805 then ((sennitlaw05_cut.f k l0 (y342 ++ y346)).bind fun t352 => (if (t333.length : Int) = (t336.length : Int) then (sennitlaw05_AlignTurns.j0 k l1 t312 (Int.tmod (wrap64 (a2)) (l1.length : Int)) t333 t336 t352 ((t333.length : Int) != (t352.length : Int))) else (sennitlaw05_AlignTurns.j0 k l1 t312 (Int.tmod (wrap64 (a2)) (l1.length : Int)) t333 t336 t352 true))) else (none))) else (none))) else (none))))) else (none)))) else (none))) else (none)) else (none)))) else (some t312)) = some r := H
 have A5 := am A50
 clear A50
 by_cases c6 : t313 = true
 ·subst c6
  have H1 : (if (l1.length : Int) = 0 then (none) else ((some (([] : List (List Int)) : List (List Int))).bind fun y314 => (if 0 ≤ (Int.tmod (wrap64 (a2)) (l1.length : Int)) then (if (Int.tmod (wrap64 (a2)) (l1.length : Int)) ≤ (l1.length : Int) then ((some (l1.drop ((Int.tmod (wrap64 (a2)) (l1.length : Int)) : Int).toNat : List (List Int))).bind fun y317 => (if y314.length + y317.length < 5864062014805 then ((some (y314 ++ y317 : List (List Int))).bind fun y322 => ((some (l1.take ((Int.tmod (wrap64 (a2)) (l1.length : Int)) : Int).toNat : List (List Int))).bind fun y325 => (if y322.length + y325.length < 5864062014805 then ((sennitlaw05_cut.f k l0 l1).bind fun t333 => ((sennitlaw05_cut.f k l0 (y322 ++ y325)).bind fun t336 => ((some (([] : List (List Int)) : List (List Int))).bind fun y339 => (if y339.length + l1.length < 5864062014805 then ((some (y339 ++ l1 : List (List Int))).bind fun y342 => (if (Int.tmod (wrap64 (a2)) (l1.length : Int)) < (l1.length : Int) then ((some (([rd_L9 l1 (Int.tmod (wrap64 (a2)) (l1.length : Int))] : List (List Int)) : List (List Int))).bind fun y346 => (if y342.length + y346.length < 5864062014805 then ((sennitlaw05_cut.f k l0 (y342 ++ y346)).bind fun t352 => (if (t333.length : Int) = (t336.length : Int) then (sennitlaw05_AlignTurns.j0 k l1 t312 (Int.tmod (wrap64 (a2)) (l1.length : Int)) t333 t336 t352 ((t333.length : Int) != (t352.length : Int))) else (sennitlaw05_AlignTurns.j0 k l1 t312 (Int.tmod (wrap64 (a2)) (l1.length : Int)) t333 t336 t352 true))) else (none))) else (none))) else (none))))) else (none)))) else (none))) else (none)) else (none)))) = some r := by rw [if_pos rfl] at H; exact H
  clear H
  have H := H1
  clear H1
  by_cases c7 : (l1.length : Int) = 0
  ·rw [if_pos c7] at H
   exact absurd H (by simp)
  ·rw [if_neg c7] at H
   have c7b0 : ((l1.length : Int) == 0) = false := beq_eq_false_iff_ne.mpr c7
   have c7b1 : ((l1.length : Int) != 0) = true := bne_iff_ne.mpr c7
   have c7b2 : ¬ (l1 = []) := fun h_ => c7 (by rw [h_]; rfl)
   obtain ⟨y314, hy314⟩ : ∃ y_ : List (List Int), y_ = (([] : List (List Int))) := ⟨_, rfl⟩
   replace H : (if 0 ≤ (Int.tmod (wrap64 (a2)) (l1.length : Int)) then (if (Int.tmod (wrap64 (a2)) (l1.length : Int)) ≤ (l1.length : Int) then ((some (l1.drop ((Int.tmod (wrap64 (a2)) (l1.length : Int)) : Int).toNat : List (List Int))).bind fun y317 => (if y314.length + y317.length < 5864062014805 then ((some (y314 ++ y317 : List (List Int))).bind fun y322 => ((some (l1.take ((Int.tmod (wrap64 (a2)) (l1.length : Int)) : Int).toNat : List (List Int))).bind fun y325 => (if y322.length + y325.length < 5864062014805 then ((sennitlaw05_cut.f k l0 l1).bind fun t333 => ((sennitlaw05_cut.f k l0 (y322 ++ y325)).bind fun t336 => ((some (([] : List (List Int)) : List (List Int))).bind fun y339 => (if y339.length + l1.length < 5864062014805 then ((some (y339 ++ l1 : List (List Int))).bind fun y342 => (if (Int.tmod (wrap64 (a2)) (l1.length : Int)) < (l1.length : Int) then ((some (([rd_L9 l1 (Int.tmod (wrap64 (a2)) (l1.length : Int))] : List (List Int)) : List (List Int))).bind fun y346 => (if y342.length + y346.length < 5864062014805 then ((sennitlaw05_cut.f k l0 (y342 ++ y346)).bind fun t352 => (if (t333.length : Int) = (t336.length : Int) then (sennitlaw05_AlignTurns.j0 k l1 t312 (Int.tmod (wrap64 (a2)) (l1.length : Int)) t333 t336 t352 ((t333.length : Int) != (t352.length : Int))) else (sennitlaw05_AlignTurns.j0 k l1 t312 (Int.tmod (wrap64 (a2)) (l1.length : Int)) t333 t336 t352 true))) else (none))) else (none))) else (none))))) else (none)))) else (none))) else (none)) else (none)) = some r := by first | (rw [hy314]; with_reducible exact H) | (have H2_ := (Option.bind_some _ _).symm.trans H; rw [hy314]; with_reducible exact H2_) | (have H2_ := (Option.bind_some _ _).symm.trans H; with_reducible exact H2_) | with_reducible exact H | (rw [hy314]; exact H) | exact H
   have Ny314 := am hy314
   clear hy314
   obtain ⟨ji8, hji8⟩ : ∃ j_ : Int, (Int.tmod (wrap64 (a2)) (l1.length : Int)) = j_ := ⟨_, rfl⟩
   replace H : (if 0 ≤ (ji8) then (if (ji8) ≤ (l1.length : Int) then ((some (l1.drop ((ji8) : Int).toNat : List (List Int))).bind fun y317 => (if y314.length + y317.length < 5864062014805 then ((some (y314 ++ y317 : List (List Int))).bind fun y322 => ((some (l1.take ((ji8) : Int).toNat : List (List Int))).bind fun y325 => (if y322.length + y325.length < 5864062014805 then ((sennitlaw05_cut.f k l0 l1).bind fun t333 => ((sennitlaw05_cut.f k l0 (y322 ++ y325)).bind fun t336 => ((some (([] : List (List Int)) : List (List Int))).bind fun y339 => (if y339.length + l1.length < 5864062014805 then ((some (y339 ++ l1 : List (List Int))).bind fun y342 => (if (ji8) < (l1.length : Int) then ((some (([rd_L9 l1 (ji8)] : List (List Int)) : List (List Int))).bind fun y346 => (if y342.length + y346.length < 5864062014805 then ((sennitlaw05_cut.f k l0 (y342 ++ y346)).bind fun t352 => (if (t333.length : Int) = (t336.length : Int) then (sennitlaw05_AlignTurns.j0 k l1 t312 ji8 t333 t336 t352 ((t333.length : Int) != (t352.length : Int))) else (sennitlaw05_AlignTurns.j0 k l1 t312 ji8 t333 t336 t352 true))) else (none))) else (none))) else (none))))) else (none)))) else (none))) else (none)) else (none)) = some r := by first | (rw [hji8] at H; exact H) | (simp only [hji8] at H ⊢; exact H)
   (try rw [hji8] at A4)
   (try rw [hji8] at A5)
   by_cases c9 : 0 ≤ (ji8)
   ·rw [if_pos c9] at H
    have c9b0 := eq_true c9
    have c9b1 : decide (0 ≤ (ji8)) = true := decide_eq_true c9
    clear c9
    by_cases c10 : (ji8) ≤ (l1.length : Int)
    ·rw [if_pos c10] at H
     have c10b0 := eq_true c10
     have c10b1 : decide ((ji8) ≤ (l1.length : Int)) = true := decide_eq_true c10
     clear c10
     obtain ⟨y317, hy317⟩ : ∃ y_ : List (List Int), y_ = (l1.drop ((ji8) : Int).toNat) := ⟨_, rfl⟩
     replace H : (if y314.length + y317.length < 5864062014805 then ((some (y314 ++ y317 : List (List Int))).bind fun y322 => ((some (l1.take ((ji8) : Int).toNat : List (List Int))).bind fun y325 => (if y322.length + y325.length < 5864062014805 then ((sennitlaw05_cut.f k l0 l1).bind fun t333 => ((sennitlaw05_cut.f k l0 (y322 ++ y325)).bind fun t336 => ((some (([] : List (List Int)) : List (List Int))).bind fun y339 => (if y339.length + l1.length < 5864062014805 then ((some (y339 ++ l1 : List (List Int))).bind fun y342 => (if (ji8) < (l1.length : Int) then ((some (([rd_L9 l1 (ji8)] : List (List Int)) : List (List Int))).bind fun y346 => (if y342.length + y346.length < 5864062014805 then ((sennitlaw05_cut.f k l0 (y342 ++ y346)).bind fun t352 => (if (t333.length : Int) = (t336.length : Int) then (sennitlaw05_AlignTurns.j0 k l1 t312 ji8 t333 t336 t352 ((t333.length : Int) != (t352.length : Int))) else (sennitlaw05_AlignTurns.j0 k l1 t312 ji8 t333 t336 t352 true))) else (none))) else (none))) else (none))))) else (none)))) else (none)) = some r := by first | (rw [hy317]; with_reducible exact H) | (have H2_ := (Option.bind_some _ _).symm.trans H; rw [hy317]; with_reducible exact H2_) | (have H2_ := (Option.bind_some _ _).symm.trans H; with_reducible exact H2_) | with_reducible exact H | (rw [hy317]; exact H) | exact H
     have Ny317 := am hy317
     clear hy317
     by_cases c11 : y314.length + y317.length < 5864062014805
     ·rw [if_pos c11] at H
      have LMc11 := am c11
      clear c11
      obtain ⟨y322, hy322⟩ : ∃ y_ : List (List Int), y_ = (y314 ++ y317) := ⟨_, rfl⟩
      replace H : ((some (l1.take ((ji8) : Int).toNat : List (List Int))).bind fun y325 => (if y322.length + y325.length < 5864062014805 then ((sennitlaw05_cut.f k l0 l1).bind fun t333 => ((sennitlaw05_cut.f k l0 (y322 ++ y325)).bind fun t336 => ((some (([] : List (List Int)) : List (List Int))).bind fun y339 => (if y339.length + l1.length < 5864062014805 then ((some (y339 ++ l1 : List (List Int))).bind fun y342 => (if (ji8) < (l1.length : Int) then ((some (([rd_L9 l1 (ji8)] : List (List Int)) : List (List Int))).bind fun y346 => (if y342.length + y346.length < 5864062014805 then ((sennitlaw05_cut.f k l0 (y342 ++ y346)).bind fun t352 => (if (t333.length : Int) = (t336.length : Int) then (sennitlaw05_AlignTurns.j0 k l1 t312 ji8 t333 t336 t352 ((t333.length : Int) != (t352.length : Int))) else (sennitlaw05_AlignTurns.j0 k l1 t312 ji8 t333 t336 t352 true))) else (none))) else (none))) else (none))))) else (none))) = some r := by first | (rw [hy322]; with_reducible exact H) | (have H2_ := (Option.bind_some _ _).symm.trans H; rw [hy322]; with_reducible exact H2_) | (have H2_ := (Option.bind_some _ _).symm.trans H; with_reducible exact H2_) | with_reducible exact H | (rw [hy322]; exact H) | exact H
      have Ny322 := am hy322
      clear hy322
      have c12b0 := eq_true (of_decide_eq_true (by first | (with_reducible assumption) | assumption) : 0 ≤ (ji8))
      have c13b0 := eq_true (of_decide_eq_true (by first | (with_reducible assumption) | assumption) : (ji8) ≤ (l1.length : Int))
      obtain ⟨y325, hy325⟩ : ∃ y_ : List (List Int), y_ = (l1.take ((ji8) : Int).toNat) := ⟨_, rfl⟩
      replace H : (if y322.length + y325.length < 5864062014805 then ((sennitlaw05_cut.f k l0 l1).bind fun t333 => ((sennitlaw05_cut.f k l0 (y322 ++ y325)).bind fun t336 => ((some (([] : List (List Int)) : List (List Int))).bind fun y339 => (if y339.length + l1.length < 5864062014805 then ((some (y339 ++ l1 : List (List Int))).bind fun y342 => (if (ji8) < (l1.length : Int) then ((some (([rd_L9 l1 (ji8)] : List (List Int)) : List (List Int))).bind fun y346 => (if y342.length + y346.length < 5864062014805 then ((sennitlaw05_cut.f k l0 (y342 ++ y346)).bind fun t352 => (if (t333.length : Int) = (t336.length : Int) then (sennitlaw05_AlignTurns.j0 k l1 t312 ji8 t333 t336 t352 ((t333.length : Int) != (t352.length : Int))) else (sennitlaw05_AlignTurns.j0 k l1 t312 ji8 t333 t336 t352 true))) else (none))) else (none))) else (none))))) else (none)) = some r := by first | (rw [hy325]; with_reducible exact H) | (have H2_ := (Option.bind_some _ _).symm.trans H; rw [hy325]; with_reducible exact H2_) | (have H2_ := (Option.bind_some _ _).symm.trans H; with_reducible exact H2_) | with_reducible exact H | (rw [hy325]; exact H) | exact H
      have Ny325 := am hy325
      clear hy325
      by_cases c14 : y322.length + y325.length < 5864062014805
      ·rw [if_pos c14] at H
       have LMc14 := am c14
       clear c14
       obtain ⟨y330, hy330⟩ : ∃ y_ : List (List Int), y_ = (y322 ++ y325) := ⟨_, rfl⟩
       replace H : ((sennitlaw05_cut.f k l0 l1).bind fun t333 => ((sennitlaw05_cut.f k l0 y330).bind fun t336 => ((some (([] : List (List Int)) : List (List Int))).bind fun y339 => (if y339.length + l1.length < 5864062014805 then ((some (y339 ++ l1 : List (List Int))).bind fun y342 => (if (ji8) < (l1.length : Int) then ((some (([rd_L9 l1 (ji8)] : List (List Int)) : List (List Int))).bind fun y346 => (if y342.length + y346.length < 5864062014805 then ((sennitlaw05_cut.f k l0 (y342 ++ y346)).bind fun t352 => (if (t333.length : Int) = (t336.length : Int) then (sennitlaw05_AlignTurns.j0 k l1 t312 ji8 t333 t336 t352 ((t333.length : Int) != (t352.length : Int))) else (sennitlaw05_AlignTurns.j0 k l1 t312 ji8 t333 t336 t352 true))) else (none))) else (none))) else (none))))) = some r := by first | (rw [hy330]; with_reducible exact H) | (have H2_ := (Option.bind_some _ _).symm.trans H; rw [hy330]; with_reducible exact H2_) | (have H2_ := (Option.bind_some _ _).symm.trans H; with_reducible exact H2_) | with_reducible exact H | (rw [hy330]; exact H) | exact H
       have Ny330 := am hy330
       clear hy330
       replace H := Option.bind_eq_some_iff.mp H
       obtain ⟨t333, A150, H⟩ := H
       replace H : ((sennitlaw05_cut.f k l0 y330).bind fun t336 => ((some (([] : List (List Int)) : List (List Int))).bind fun y339 => (if y339.length + l1.length < 5864062014805 then ((some (y339 ++ l1 : List (List Int))).bind fun y342 => (if (ji8) < (l1.length : Int) then ((some (([rd_L9 l1 (ji8)] : List (List Int)) : List (List Int))).bind fun y346 => (if y342.length + y346.length < 5864062014805 then ((sennitlaw05_cut.f k l0 (y342 ++ y346)).bind fun t352 => (if (t333.length : Int) = (t336.length : Int) then (sennitlaw05_AlignTurns.j0 k l1 t312 ji8 t333 t336 t352 ((t333.length : Int) != (t352.length : Int))) else (sennitlaw05_AlignTurns.j0 k l1 t312 ji8 t333 t336 t352 true))) else (none))) else (none))) else (none)))) = some r := H
       have A15 := am A150
       clear A150
       replace H := Option.bind_eq_some_iff.mp H
       obtain ⟨t336, A160, H⟩ := H
       replace H : ((some (([] : List (List Int)) : List (List Int))).bind fun y339 => (if y339.length + l1.length < 5864062014805 then ((some (y339 ++ l1 : List (List Int))).bind fun y342 => (if (ji8) < (l1.length : Int) then ((some (([rd_L9 l1 (ji8)] : List (List Int)) : List (List Int))).bind fun y346 => (if y342.length + y346.length < 5864062014805 then ((sennitlaw05_cut.f k l0 (y342 ++ y346)).bind fun t352 => (if (t333.length : Int) = (t336.length : Int) then (sennitlaw05_AlignTurns.j0 k l1 t312 ji8 t333 t336 t352 ((t333.length : Int) != (t352.length : Int))) else (sennitlaw05_AlignTurns.j0 k l1 t312 ji8 t333 t336 t352 true))) else (none))) else (none))) else (none))) = some r := H
       have A16 := am A160
       clear A160
       obtain ⟨y339, hy339⟩ : ∃ y_ : List (List Int), y_ = (([] : List (List Int))) := ⟨_, rfl⟩
       replace H : (if y339.length + l1.length < 5864062014805 then ((some (y339 ++ l1 : List (List Int))).bind fun y342 => (if (ji8) < (l1.length : Int) then ((some (([rd_L9 l1 (ji8)] : List (List Int)) : List (List Int))).bind fun y346 => (if y342.length + y346.length < 5864062014805 then ((sennitlaw05_cut.f k l0 (y342 ++ y346)).bind fun t352 => (if (t333.length : Int) = (t336.length : Int) then (sennitlaw05_AlignTurns.j0 k l1 t312 ji8 t333 t336 t352 ((t333.length : Int) != (t352.length : Int))) else (sennitlaw05_AlignTurns.j0 k l1 t312 ji8 t333 t336 t352 true))) else (none))) else (none))) else (none)) = some r := by first | (rw [hy339]; with_reducible exact H) | (have H2_ := (Option.bind_some _ _).symm.trans H; rw [hy339]; with_reducible exact H2_) | (have H2_ := (Option.bind_some _ _).symm.trans H; with_reducible exact H2_) | with_reducible exact H | (rw [hy339]; exact H) | exact H
       have Ny339 := am hy339
       clear hy339
       by_cases c17 : y339.length + l1.length < 5864062014805
       ·rw [if_pos c17] at H
        have LMc17 := am c17
        clear c17
        obtain ⟨y342, hy342⟩ : ∃ y_ : List (List Int), y_ = (y339 ++ l1) := ⟨_, rfl⟩
        replace H : (if (ji8) < (l1.length : Int) then ((some (([rd_L9 l1 (ji8)] : List (List Int)) : List (List Int))).bind fun y346 => (if y342.length + y346.length < 5864062014805 then ((sennitlaw05_cut.f k l0 (y342 ++ y346)).bind fun t352 => (if (t333.length : Int) = (t336.length : Int) then (sennitlaw05_AlignTurns.j0 k l1 t312 ji8 t333 t336 t352 ((t333.length : Int) != (t352.length : Int))) else (sennitlaw05_AlignTurns.j0 k l1 t312 ji8 t333 t336 t352 true))) else (none))) else (none)) = some r := by first | (rw [hy342]; with_reducible exact H) | (have H2_ := (Option.bind_some _ _).symm.trans H; rw [hy342]; with_reducible exact H2_) | (have H2_ := (Option.bind_some _ _).symm.trans H; with_reducible exact H2_) | with_reducible exact H | (rw [hy342]; exact H) | exact H
        have Ny342 := am hy342
        clear hy342
        by_cases c18 : (ji8) < (l1.length : Int)
        ·rw [if_pos c18] at H
         have c18b0 : decide ((ji8) < (l1.length : Int)) = true := decide_eq_true c18
         clear c18
         obtain ⟨y346, hy346⟩ : ∃ y_ : List (List Int), y_ = (([rd_L9 l1 (ji8)] : List (List Int))) := ⟨_, rfl⟩
         replace H : (if y342.length + y346.length < 5864062014805 then ((sennitlaw05_cut.f k l0 (y342 ++ y346)).bind fun t352 => (if (t333.length : Int) = (t336.length : Int) then (sennitlaw05_AlignTurns.j0 k l1 t312 ji8 t333 t336 t352 ((t333.length : Int) != (t352.length : Int))) else (sennitlaw05_AlignTurns.j0 k l1 t312 ji8 t333 t336 t352 true))) else (none)) = some r := by first | (rw [hy346]; with_reducible exact H) | (have H2_ := (Option.bind_some _ _).symm.trans H; rw [hy346]; with_reducible exact H2_) | (have H2_ := (Option.bind_some _ _).symm.trans H; with_reducible exact H2_) | with_reducible exact H | (rw [hy346]; exact H) | exact H
         have Ny346 := am hy346
         clear hy346
         by_cases c19 : y342.length + y346.length < 5864062014805
         ·rw [if_pos c19] at H
          have LMc19 := am c19
          clear c19
          obtain ⟨y349, hy349⟩ : ∃ y_ : List (List Int), y_ = (y342 ++ y346) := ⟨_, rfl⟩
          replace H : ((sennitlaw05_cut.f k l0 y349).bind fun t352 => (if (t333.length : Int) = (t336.length : Int) then (sennitlaw05_AlignTurns.j0 k l1 t312 ji8 t333 t336 t352 ((t333.length : Int) != (t352.length : Int))) else (sennitlaw05_AlignTurns.j0 k l1 t312 ji8 t333 t336 t352 true))) = some r := by first | (rw [hy349]; with_reducible exact H) | (have H2_ := (Option.bind_some _ _).symm.trans H; rw [hy349]; with_reducible exact H2_) | (have H2_ := (Option.bind_some _ _).symm.trans H; with_reducible exact H2_) | with_reducible exact H | (rw [hy349]; exact H) | exact H
          have Ny349 := am hy349
          clear hy349
          replace H := Option.bind_eq_some_iff.mp H
          obtain ⟨t352, A200, H⟩ := H
          replace H : (if (t333.length : Int) = (t336.length : Int) then (sennitlaw05_AlignTurns.j0 k l1 t312 ji8 t333 t336 t352 ((t333.length : Int) != (t352.length : Int))) else (sennitlaw05_AlignTurns.j0 k l1 t312 ji8 t333 t336 t352 true)) = some r := H
          have A20 := am A200
          clear A200
          have HC21 := am H
          clear H
          go_enter Try.func6, Try.ntmps6
          try go_wp2_with (first | ((with_reducible refine gate_callee (f := 14) rfl ?_); refine goesL_ (some 15) rfl rfl Try.func14 (by kernel_rfl) rfl #[] rfl (by (try simp only [List.map_toArray, List.map_cons, List.map_nil]); first | done | rfl | (simp only [List.length_drop, List.length_take]; rfl)) ?_; (with_reducible refine (sennitlaw05_awake.calls k  t312 _ A4.out).mono ?_); rintro e w22 ⟨rfl, hb⟩; refine ⟨_, rfl, ?_⟩; have n0_ := am (Kd.V_below (by (with_reducible repeat (first | apply vA | apply vN | apply vD)); exact HO1.out) hb); have n1_ := am (below_step (by repeat (with_reducible first | exact HB.out | apply bA | apply bN | apply bD)) hb); clear HO1; clear HB; have HO1 := n0_; have HB := n1_; clear n0_ n1_; (try clear hb); (try clear hb2); (try clear hk); (try clear hi)) | ((with_reducible refine gate_callee (f := 15) rfl ?_); refine goesL_ (some 18) rfl rfl Try.func15 (by kernel_rfl) rfl #[.slice A0 l0.length c0, .slice A1 l1.length c1] rfl (by (try simp only [List.map_toArray, List.map_cons, List.map_nil]); first | done | rfl | (simp only [List.length_drop, List.length_take]; rfl)) ?_; (with_reducible refine (sennitref05_Few.calls k _ _ l0 _ _ l1 true _ ?side1 ?side2 ?side3 ?side4 A5.out).mono ?_); (case side1 => repeat (first | exact (Kd.C_below HR0.out HB.out) | (with_reducible refine Kd.C_alloc ?_ _) | (with_reducible refine Kd.C_drewN ?_ _) | (with_reducible refine Kd.C_drew ?_))); (case side2 => exact HC0.out); (case side3 => repeat (first | exact (Kd.V_reads' HO1.out).2.2 | (with_reducible refine Kd.C_alloc ?_ _) | (with_reducible refine Kd.C_drewN ?_ _) | (with_reducible refine Kd.C_drew ?_))); (case side4 => exact (Kd.V_reads' HO1.out).2.1); rintro e w' ⟨rfl, ⟨nd, rfl⟩⟩; refine ⟨_, rfl, ?_⟩))
          (try (rw [drewN_self w22]; generalize hq_ : World.drewN w22 _ = w22; have n0_ : Aside0 (Kd.V (Kd.slice 5 (Kd.int .u8)) 22 w22 w.heap.size (fun k_ => (P1_ k_ ∨ w.heap.size ≤ k_)) (.slice A1 l1.length c1) l1) := ⟨by rw [← hq_]; exact (by (with_reducible repeat (first | apply vA | apply vN | apply vD)); exact HO1.out)⟩; have n1_ : Aside0 (Below w.heap.size w w22) := ⟨by rw [← hq_]; exact (by repeat (with_reducible first | exact HB.out | apply bA | apply bN | apply bD))⟩; clear HO1 HB hq_; have HO1 := n0_; have HB := n1_; clear n0_ n1_))
          have n0_ := am (Kd.V_drew HO1.out)
          have n1_ := am (below_drew1 HB.out)
          clear HO1
          clear HB
          have HO1 := n0_
          have HB := n1_
          clear n0_ n1_
          have q24 : ((ji8) : Int) ≤ ((l1.length : Int) : Int) := of_decide_eq_true (by first | (with_reducible assumption) | assumption)
          obtain ⟨i024, hi024, _, hsz24, _⟩ := info_parts info22
          have hroom24 : l1.length ≤ c1 := (Kd.V_reads' HO1.out).2.1
          have hC24 : Kd.F (Kd.slice 5 (Kd.int .u8)) _ _ A1 l1.length l1 := (Kd.V_at (base := w.heap.size) HO1.out).2.2
          have q024 : (0 : Int) ≤ ((ji8) : Int) := of_decide_eq_true (by first | (with_reducible assumption) | assumption)
          have hcut24 := cut_from (P := Try.prog) 23 22 .i64 Try.underlying23 hi024 1 hsz24 A1 l1.length c1 (ji8) q024 q24
          have hr24 := Kd.F_cut (m := ((ji8) : Int).toNat) (c := c1) hC24 (by omega) hroom24
          obtain ⟨A24, hA24⟩ : ∃ A1x_, A1x_ = (if c1 = ((ji8) : Int).toNat then A1 else (A1 : Option Addr).map (·.add (((ji8) : Int).toNat * 1))) := ⟨_, rfl⟩
          obtain ⟨c24, hc24⟩ : ∃ c1x_, c1x_ = c1 - ((ji8) : Int).toNat := ⟨_, rfl⟩
          have hy24 : y317.length = l1.length - ((ji8) : Int).toNat := (by rw [Ny317.out, List.length_drop] <;> omega)
          rw [show (l1).drop ((ji8) : Int).toNat = y317 from Ny317.out.symm] at hr24
          replace hr24 : Kd.F (Kd.slice 5 (Kd.int .u8)) _ _ A24 y317.length y317 := (by rw [hA24]; exact hr24)
          rw [← hy24, ← hA24, ← hc24] at hcut24
          have HO321 := am (show Kd.V (Kd.slice 5 (Kd.int .u8)) 22 _ w.heap.size _ (.slice A24 y317.length c24) y317 from Kd.V_mk (by rw [hy24, hc24]; exact Nat.sub_le_sub_right hroom24 _) hr24)
          have HC321 := am (show y317.length ≤ c24 from by rw [hy24, hc24]; exact Nat.sub_le_sub_right hroom24 _)
          clear hr24 hC24 hroom24 hi024 hsz24 hc24
          have KY24 := am hy24
          have KA24 := am hA24
          clear hy24 hA24
          replace q24 := eq_true q24
          have q25 : ((ji8) : Int) ≤ ((l1.length : Int) : Int) := of_decide_eq_true (by first | (with_reducible assumption) | assumption)
          obtain ⟨i025, hi025, _, hsz25, _⟩ := info_parts info22
          have hroom25 : l1.length ≤ c1 := (Kd.V_reads' HO1.out).2.1
          have hC25 : Kd.F (Kd.slice 5 (Kd.int .u8)) _ _ A1 l1.length l1 := (Kd.V_at (base := w.heap.size) HO1.out).2.2
          have hcut25 := cut_to (P := Try.prog) 23 22 .i64 Try.underlying23 hi025 A1 l1.length c1 (ji8) (of_decide_eq_true (by first | (with_reducible assumption) | assumption)) q25 hroom25
          have hr25 := Kd.F_take (m := ((ji8) : Int).toNat) hC25 (by omega)
          have hy25 : y325.length = ((ji8) : Int).toNat := (by rw [Ny325.out, List.length_take]; omega)
          rw [← Ny325.out] at hr25
          rw [← hy25] at hcut25
          have HO329 := am (show Kd.V (Kd.slice 5 (Kd.int .u8)) 22 _ w.heap.size _ (.slice A1 y325.length c1) y325 from Kd.V_mk (by omega) hr25)
          have HC329 := am (show y325.length ≤ c1 from by omega)
          clear hr25 hC25 hroom25 hi025 hsz25
          have KY25 := am hy25
          clear hy25
          replace q25 := eq_true q25
          refine start_ (n := 10) (S := fun w' => True) (ds := []) #[false, false, false, false, false, false, false, false, false, false] (by kernel_rfl) rfl rfl trivial (fun hHeld => ?_); refine with_tabW sennitlaw05_AlignTurns.tab5 sennitlaw05_AlignTurns.bits5 (fun HT_ HW_ => ?_)
          generalize w22.drew = w23 at HO1 HB HO321 HO329 hHeld ⊢
          refine pN HT_.out 1 27 ?_
          refine pN HT_.out 2 28 ?_
          refine pN HT_.out 3 29 ?_
          refine pN HT_.out 5 31 ?_
          refine pN HT_.out 6 32 ?_
          refine pN HT_.out 7 33 ?_
          refine one_ (i := 0) (N := some 26) #[true, true, true, true, false, true, true, true, false, false] rfl rfl (one_of HT_.out (by kernel_rfl)) (by decide) (fun K hK => ?_)
          refine Kd.N_lit_step (Kd.slice 5 (Kd.int .u8)) _ 22 ?hg (N' := 26) ?hd (xs := ([] : List (List Int))) (inner := []) (ok := (fun k_ => (P1_ k_ ∨ w.heap.size ≤ k_))) (okp := (fun k_ => (P1_ k_ ∨ w.heap.size ≤ k_))) ?hr ?hp (fun _ hk => hk) ((show ∀ k_, w23.heap.size ≤ k_ → (fun k_ => (P1_ k_ ∨ w.heap.size ≤ k_)) k_ from fun k_ hk => (.inr (Nat.le_trans (below_size (by repeat (with_reducible first | exact HB.out | apply bA | apply bN | apply bD))) hk))) _ (Nat.le_refl _)) (Below.refl _ _) (Nat.le_refl _) (by simp) ?_; (case hd => rfl); (case hg => rfl); (case hr => first | (go_simp; done) | (go_simp; rfl)); (case hp => exact (Reps.none _ _))
          intro v315 w26 ho27 hb hg_ hnew_
          clear hg_ hnew_
          rw [← Ny314.out] at ho27
          have n0_ := am (Kd.V_elder' (by (with_reducible repeat (first | apply vA | apply vN | apply vD)); exact HO1.out) (Kd.N_base ho27) hb)
          have n1_ := am (Kd.V_elder' (by (with_reducible repeat (first | apply vA | apply vN | apply vD)); exact HO321.out) (Kd.N_base ho27) hb)
          have n2_ := am (Kd.V_elder' (by (with_reducible repeat (first | apply vA | apply vN | apply vD)); exact HO329.out) (Kd.N_base ho27) hb)
          have n3_ := am (Kd.N_lower ho27 (below_size (by repeat (with_reducible first | exact HB.out | apply bA | apply bN | apply bD))))
          have n4_ := am (below_step (by repeat (with_reducible first | exact HB.out | apply bA | apply bN | apply bD)) hb)
          clear HO1
          clear HO321
          clear HO329
          clear HB
          have HO1 := n0_
          have HO321 := n1_
          have HO329 := n2_
          have HO316 := n3_
          have HB := n4_
          clear n0_ n1_ n2_ n3_ n4_
          clear hb ho27
          refine hK.out _ _ trivial (fun hHeld => ?_)
          clear hK K
          refine norm_ (a' := ?_) ?_ ?_
          rotate_left
          ·show Act.put _ (some 26) _ = _
           simp only [Act.put, List.setIfInBounds_toArray, List.set_cons_zero, List.set_cons_succ, i64_w, i32_w]
           rfl
          refine one_ (i := 4) (N := some 30) #[true, true, true, true, true, true, true, true, false, false] rfl rfl (one_of HT_.out (by kernel_rfl)) (by decide) (fun K hK => ?_)
          refine Kd.N_append_rows_step (Kd.slice 5 (Kd.int .u8)) (w0 := w) w.heap.size (by rfl) (.tmp 26) (.tmp 29) 23 22 (.slice none 0 0) 24 rfl Try.underlying23 info22 rfl (by decide) (by omega) v315 y314 y317 _ _ _ (fun k_ => (P1_ k_ ∨ w.heap.size ≤ k_)) (fun k_ => ((fun k_ => (P1_ k_ ∨ w.heap.size ≤ k_))) k_ ∧ some k_ ≠ (v315 : Value).ownBlock) rfl rfl ?aO ?aR (fun _ hk => hk) ?aF ?aB ?aS ?aL ?_
          (case aR => exact (by skip; exact Kd.V_F (Kd.V_mono (ok' := (fun k_ => ((fun k_ => (P1_ k_ ∨ w.heap.size ≤ k_))) k_ ∧ some k_ ≠ (v315 : Value).ownBlock)) (HO321.out) (fun k_ hk => ⟨hk.1, hk.2⟩))))
          (case aB => exact (by repeat (with_reducible first | exact HB.out | apply bA | apply bN | apply bD)))
          (case aF => exact (fun k_ hk => (.inr (Nat.le_trans (below_size (by repeat (with_reducible first | exact HB.out | apply bA | apply bN | apply bD))) hk))))
          (case aO => exact (by (with_reducible repeat (first | apply nA | apply nN | apply nD)); exact HO316.out))
          (case aS => exact (below_size (by repeat (with_reducible first | exact HB.out | apply bA | apply bN | apply bD))))
          (case aL => have := LMc11.out; omega)
          intro v323 w28 ho hb hg hat
          rw [← Ny322.out] at ho
          have n0_ := am (Kd.V_afterv (ok := (fun k_ => (P1_ k_ ∨ w.heap.size ≤ k_))) (by (with_reducible repeat (first | apply vA | apply vN | apply vD)); exact HO1.out) hg hat)
          have n1_ := am (Kd.V_afterv (ok := (fun k_ => (P1_ k_ ∨ w.heap.size ≤ k_))) (by (with_reducible repeat (first | apply vA | apply vN | apply vD)); exact HO321.out) hg hat)
          have n2_ := am (Kd.V_afterv (ok := (fun k_ => (P1_ k_ ∨ w.heap.size ≤ k_))) (by (with_reducible repeat (first | apply vA | apply vN | apply vD)); exact HO329.out) hg hat)
          have n3_ := am (hb)
          have n4_ := am (ho)
          clear HO1
          clear HO321
          clear HO329
          clear HB
          clear HO316
          have HO1 := n0_
          have HO321 := n1_
          have HO329 := n2_
          have HB := n3_
          have HO324 := n4_
          clear n0_ n1_ n2_ n3_ n4_
          clear ho hb hg hat
          refine hK.out _ _ trivial (fun hHeld => ?_)
          clear hK K
          refine norm_ (a' := ?_) ?_ ?_
          rotate_left
          ·show Act.put _ (some 30) _ = _
           simp only [Act.put, List.setIfInBounds_toArray, List.set_cons_zero, List.set_cons_succ, i64_w, i32_w]
           rfl
          refine one_ (i := 8) (N := some 34) #[true, true, true, true, true, true, true, true, true, false] rfl rfl (one_of HT_.out (by kernel_rfl)) (by decide) (fun K hK => ?_)
          refine Kd.N_append_rows_step (Kd.slice 5 (Kd.int .u8)) (w0 := w) w.heap.size (by rfl) (.tmp 30) (.tmp 33) 23 22 (.slice none 0 0) 24 rfl Try.underlying23 info22 rfl (by decide) (by omega) v323 y322 y325 _ _ _ (fun k_ => (P1_ k_ ∨ w.heap.size ≤ k_)) (fun k_ => ((fun k_ => (P1_ k_ ∨ w.heap.size ≤ k_))) k_ ∧ some k_ ≠ (v323 : Value).ownBlock) rfl rfl ?aO ?aR (fun _ hk => hk) ?aF ?aB ?aS ?aL ?_
          (case aR => exact (by skip; exact Kd.V_F (Kd.V_mono (ok' := (fun k_ => ((fun k_ => (P1_ k_ ∨ w.heap.size ≤ k_))) k_ ∧ some k_ ≠ (v323 : Value).ownBlock)) (HO329.out) (fun k_ hk => ⟨hk.1, hk.2⟩))))
          (case aB => exact (by repeat (with_reducible first | exact HB.out | apply bA | apply bN | apply bD)))
          (case aF => exact (fun k_ hk => (.inr (Nat.le_trans (below_size (by repeat (with_reducible first | exact HB.out | apply bA | apply bN | apply bD))) hk))))
          (case aO => exact (by (with_reducible repeat (first | apply nA | apply nN | apply nD)); exact HO324.out))
          (case aS => exact (below_size (by repeat (with_reducible first | exact HB.out | apply bA | apply bN | apply bD))))
          (case aL => have := LMc14.out; omega)
          intro v331 w29 ho hb hg hat
          rw [← Ny330.out] at ho
          have n0_ := am (Kd.V_afterv (ok := (fun k_ => (P1_ k_ ∨ w.heap.size ≤ k_))) (by (with_reducible repeat (first | apply vA | apply vN | apply vD)); exact HO1.out) hg hat)
          have n1_ := am (Kd.V_afterv (ok := (fun k_ => (P1_ k_ ∨ w.heap.size ≤ k_))) (by (with_reducible repeat (first | apply vA | apply vN | apply vD)); exact HO321.out) hg hat)
          have n2_ := am (Kd.V_afterv (ok := (fun k_ => (P1_ k_ ∨ w.heap.size ≤ k_))) (by (with_reducible repeat (first | apply vA | apply vN | apply vD)); exact HO329.out) hg hat)
          have n3_ := am (hb)
          have n4_ := am (ho)
          clear HO1
          clear HO321
          clear HO329
          clear HB
          clear HO324
          have HO1 := n0_
          have HO321 := n1_
          have HO329 := n2_
          have HB := n3_
          have HO332 := n4_
          clear n0_ n1_ n2_ n3_ n4_
          clear ho hb hg hat
          refine hK.out _ _ trivial (fun hHeld => ?_)
          clear hK K
          refine norm_ (a' := ?_) ?_ ?_
          rotate_left
          ·show Act.put _ (some 34) _ = _
           simp only [Act.put, List.setIfInBounds_toArray, List.set_cons_zero, List.set_cons_succ, i64_w, i32_w]
           rfl
          refine pN HT_.out 9 9 ?_
          refine done_ (done_of HT_.out (by kernel_rfl)) ?_
          try go_wp2_with (first | ((with_reducible refine gate_callee (f := 19) rfl ?_); refine goesL_ (some 37) rfl rfl Try.func19 (by kernel_rfl) rfl #[.slice A0 l0.length c0, .slice A1 l1.length c1] rfl (by (try simp only [List.map_toArray, List.map_cons, List.map_nil]); first | done | rfl | (simp only [List.length_drop, List.length_take]; rfl)) ?_; (with_reducible refine (sennitlaw05_cut.calls k _ _ l0 _ _ l1 t333 _ ?side1 ?side2 ?side3 ?side4 A15.out).mono ?_); (case side1 => repeat (first | exact (Kd.C_below HR0.out HB.out) | (with_reducible refine Kd.C_alloc ?_ _) | (with_reducible refine Kd.C_drewN ?_ _) | (with_reducible refine Kd.C_drew ?_))); (case side2 => exact HC0.out); (case side3 => repeat (first | exact (Kd.V_reads' HO1.out).2.2 | (with_reducible refine Kd.C_alloc ?_ _) | (with_reducible refine Kd.C_drewN ?_ _) | (with_reducible refine Kd.C_drew ?_))); (case side4 => exact (Kd.V_reads' HO1.out).2.1); rintro e w30 ⟨v334, rfl, ho0, hb⟩; refine ⟨_, rfl, ?_⟩; have n0_ := am (Kd.V_elder' (by (with_reducible repeat (first | apply vA | apply vN | apply vD)); exact HO1.out) (Kd.S_base ho0) hb); have n1_ := am (Kd.V_elder' (by (with_reducible repeat (first | apply vA | apply vN | apply vD)); exact HO321.out) (Kd.S_base ho0) hb); have n2_ := am (Kd.V_elder' (by (with_reducible repeat (first | apply vA | apply vN | apply vD)); exact HO329.out) (Kd.S_base ho0) hb); have n3_ := am (Kd.N_elder' (by (with_reducible repeat (first | apply nA | apply nN | apply nD)); exact HO332.out) (Kd.S_base ho0) hb); have n4_ := am (Kd.N_lower (Kd.N_mono (ok' := fun k_ => (P1_ k_ ∨ w.heap.size ≤ k_) ∧ some k_ ≠ (v331 : Value).ownBlock) (Kd.S_N (Kd.S_bound ho0)) (fun k_ hk_ => ⟨(.inr (Nat.le_trans (below_size (by repeat (with_reducible first | exact HB.out | apply bA | apply bN | apply bD))) hk_.2.1)), (Kd.fresh' (Kd.N_lt (by (with_reducible repeat (first | apply nA | apply nN | apply nD)); exact HO332.out)) k_ hk_.2.1)⟩)) (below_size (by repeat (with_reducible first | exact HB.out | apply bA | apply bN | apply bD)))); have n5_ := am (below_step (by repeat (with_reducible first | exact HB.out | apply bA | apply bN | apply bD)) hb); clear HO1; clear HO321; clear HO329; clear HO332; clear HB; have HO1 := n0_; have HO321 := n1_; have HO329 := n2_; have HO332 := n3_; have HO335 := n4_; have HB := n5_; clear n0_ n1_ n2_ n3_ n4_ n5_; (try clear hb); (try clear hb2); (try clear hk); (try clear hi); (try clear ho0); obtain ⟨Ao31, co31, eo31⟩ := Kd.N_slice HO332.out; subst eo31) | ((with_reducible refine gate_callee (f := 19) rfl ?_); refine goesL_ (some 40) rfl rfl Try.func19 (by kernel_rfl) rfl #[.slice A0 l0.length c0, .slice Ao31 y330.length co31] rfl (by (try simp only [List.map_toArray, List.map_cons, List.map_nil]); first | done | rfl | (simp only [List.length_drop, List.length_take]; rfl)) ?_; (with_reducible refine (sennitlaw05_cut.calls k _ _ l0 _ _ y330 t336 _ ?side1 ?side2 ?side3 ?side4 A16.out).mono ?_); (case side1 => repeat (first | exact (Kd.C_below HR0.out HB.out) | (with_reducible refine Kd.C_alloc ?_ _) | (with_reducible refine Kd.C_drewN ?_ _) | (with_reducible refine Kd.C_drew ?_))); (case side2 => exact HC0.out); (case side3 => repeat (first | exact (Kd.N_reads' HO332.out).2.2 | (with_reducible refine Kd.C_alloc ?_ _) | (with_reducible refine Kd.C_drewN ?_ _) | (with_reducible refine Kd.C_drew ?_))); (case side4 => exact (Kd.N_reads' HO332.out).2.1); rintro e w32 ⟨v337, rfl, ho0, hb⟩; refine ⟨_, rfl, ?_⟩; have n0_ := am (Kd.V_elder' (by (with_reducible repeat (first | apply vA | apply vN | apply vD)); exact HO1.out) (Kd.S_base ho0) hb); have n1_ := am (Kd.V_elder' (by (with_reducible repeat (first | apply vA | apply vN | apply vD)); exact HO321.out) (Kd.S_base ho0) hb); have n2_ := am (Kd.V_elder' (by (with_reducible repeat (first | apply vA | apply vN | apply vD)); exact HO329.out) (Kd.S_base ho0) hb); have n3_ := am (Kd.N_elder' (by (with_reducible repeat (first | apply nA | apply nN | apply nD)); exact HO332.out) (Kd.S_base ho0) hb); have n4_ := am (Kd.N_elder' (by (with_reducible repeat (first | apply nA | apply nN | apply nD)); exact HO335.out) (Kd.S_base ho0) hb); have n5_ := am (Kd.N_lower (Kd.N_mono (ok' := fun k_ => (P1_ k_ ∨ w.heap.size ≤ k_) ∧ some k_ ≠ (.slice Ao31 y330.length co31 : Value).ownBlock ∧ some k_ ≠ (v334 : Value).ownBlock) (Kd.S_N (Kd.S_bound ho0)) (fun k_ hk_ => ⟨(.inr (Nat.le_trans (below_size (by repeat (with_reducible first | exact HB.out | apply bA | apply bN | apply bD))) hk_.2.1)), (Kd.fresh' (Kd.N_lt (by (with_reducible repeat (first | apply nA | apply nN | apply nD)); exact HO332.out)) k_ hk_.2.1), (Kd.fresh' (Kd.N_lt (by (with_reducible repeat (first | apply nA | apply nN | apply nD)); exact HO335.out)) k_ hk_.2.1)⟩)) (below_size (by repeat (with_reducible first | exact HB.out | apply bA | apply bN | apply bD)))); have n6_ := am (below_step (by repeat (with_reducible first | exact HB.out | apply bA | apply bN | apply bD)) hb); clear HO1; clear HO321; clear HO329; clear HO332; clear HO335; clear HB; have HO1 := n0_; have HO321 := n1_; have HO329 := n2_; have HO332 := n3_; have HO335 := n4_; have HO338 := n5_; have HB := n6_; clear n0_ n1_ n2_ n3_ n4_ n5_ n6_; (try clear hb); (try clear hb2); (try clear hk); (try clear hi); (try clear ho0)))
          have n0_ := am (Kd.V_drew HO1.out)
          have n1_ := am (Kd.V_drew HO321.out)
          have n2_ := am (Kd.V_drew HO329.out)
          have n3_ := am (Kd.N_drew HO332.out)
          have n4_ := am (Kd.N_drew HO335.out)
          have n5_ := am (Kd.N_drew HO338.out)
          have n6_ := am (below_drew1 HB.out)
          clear HO1
          clear HO321
          clear HO329
          clear HO332
          clear HO335
          clear HO338
          clear HB
          have HO1 := n0_
          have HO321 := n1_
          have HO329 := n2_
          have HO332 := n3_
          have HO335 := n4_
          have HO338 := n5_
          have HB := n6_
          clear n0_ n1_ n2_ n3_ n4_ n5_ n6_
          have p345 : 0 ≤ ((ji8) : Int) := of_decide_eq_true (by first | (with_reducible assumption) | assumption)
          have q345 : (ji8) < (l1.length : Int) := of_decide_eq_true (by first | (with_reducible assumption) | assumption)
          obtain ⟨ad345, A345_0, c345_0, e345, hx345_0, hl345_0, hi345_0⟩ := at_L9 (Kd.V_reads' HO1.out).2.2 (ji8) p345 q345
          cases e345
          obtain ⟨ce345, hce345, hMe345, hcc345⟩ := Kd.V_get HO1.out [] (ji8) p345 (by first | exact q345 | exact of_decide_eq_true (by first | (with_reducible assumption) | assumption) | (have e_ := (Kd.V_reads' HO1.out).1; omega))
          obtain ⟨ua345_0, uc345_0, rfl, ul345_0, ge345_0⟩ := Kd.FK_slice_open hMe345
          have hv345_0 := hcc345 0 _ rfl
          rw [Nat.add_zero, show ((Kd.slice 5 (Kd.int .u8))).sz = 1 from rfl, Nat.mul_one] at hv345_0
          replace hv345_0 := Option.some.inj (hv345_0.symm.trans hx345_0)
          injection hv345_0 with hva_ hvn_ hvc_
          rw [hva_] at ge345_0
          rw [hvc_] at ul345_0
          have HL345_0 := am (show Kd.V (Kd.int .u8) 5 _ w.heap.size _ _ (rd_L9 l1 (ji8)) from Kd.V_mk ul345_0 ge345_0)
          clear hva_ hvn_ hvc_ ge345_0 ul345_0
          clear hcc345 hce345
          have HR345_0 := am hi345_0
          have HC345_0 := am hl345_0
          clear hi345_0 hl345_0
          replace p345 := eq_true p345
          replace q345 := eq_true q345
          refine start_ (n := 12) (S := fun w' => w'.cell? (ad345.add ((ji8)).toNat) = some (.slice A345_0 (rd_L9 l1 (ji8)).length c345_0)) (ds := []) #[false, false, false, false, false, false, false, false, false, false, false, false] (by kernel_rfl) rfl rfl (hx345_0) (fun hHeld => ?_); refine with_tabW sennitlaw05_AlignTurns.tab8 sennitlaw05_AlignTurns.bits8 (fun HT_ HW_ => ?_)
          generalize w32.drew = w33 at HO1 HO321 HO329 HO332 HO335 HO338 HB HL345_0 HR345_0 hx345_0 hHeld ⊢
          refine pN HT_.out 0 41 ?_
          refine pN HT_.out 2 43 ?_
          refine pN HT_.out 4 45 ?_
          refine pN HT_.out 5 46 ?_
          refine pN HT_.out 6 47 ?_
          refine take_ (i := 7) (N := some 48) (v := ?_) (a' := ?_) #[true, false, true, false, true, true, true, true, false, false, false, false] rfl rfl (take_ofW HT_.out HW_.out (by kernel_rfl)) (fun _ _ _ h => h) (Or.inl ⟨by rfl, ?_⟩) hHeld ?_ ?_
          rotate_left
          ·intro w' s0
           go_simp
           with_reducible rfl
          rotate_left
          ·simp only [Act.put, List.setIfInBounds_toArray, List.set_cons_zero, List.set_cons_succ, i64_w, i32_w]
           rfl
          refine join_ (σ := Value × Value × Value) 3 #[true, true, true, true, true, true, true, true, true, false, false, false] (fun s_ => [(42, s_.1), (44, s_.2.1), (49, s_.2.2)]) (fun s_ w' => (w'.cell? (ad345.add ((ji8)).toNat) = some (.slice A345_0 (rd_L9 l1 (ji8)).length c345_0)) ∧ (Kd.V (Kd.int .u8) 5 w' w.heap.size (fun k_ => (P1_ k_ ∨ w.heap.size ≤ k_) ∧ some k_ ≠ (.slice Ao31 y330.length co31 : Value).ownBlock ∧ some k_ ≠ (v334 : Value).ownBlock ∧ some k_ ≠ (v337 : Value).ownBlock ∧ some k_ ≠ (s_.2.1 : Value).ownBlock ∧ some k_ ≠ (s_.2.2 : Value).ownBlock) (.slice A345_0 (rd_L9 l1 (ji8)).length c345_0) (rd_L9 l1 (ji8))) ∧ (Kd.V (Kd.slice 5 (Kd.int .u8)) 22 w' w.heap.size (fun k_ => (P1_ k_ ∨ w.heap.size ≤ k_) ∧ some k_ ≠ (.slice Ao31 y330.length co31 : Value).ownBlock ∧ some k_ ≠ (v334 : Value).ownBlock ∧ some k_ ≠ (v337 : Value).ownBlock ∧ some k_ ≠ (s_.2.1 : Value).ownBlock ∧ some k_ ≠ (s_.2.2 : Value).ownBlock) (.slice (some ad345) l1.length c1) l1) ∧ (Kd.V (Kd.slice 5 (Kd.int .u8)) 22 w' w.heap.size (fun k_ => (P1_ k_ ∨ w.heap.size ≤ k_) ∧ some k_ ≠ (.slice Ao31 y330.length co31 : Value).ownBlock ∧ some k_ ≠ (v334 : Value).ownBlock ∧ some k_ ≠ (v337 : Value).ownBlock ∧ some k_ ≠ (s_.2.1 : Value).ownBlock ∧ some k_ ≠ (s_.2.2 : Value).ownBlock) (.slice A24 y317.length c24) y317) ∧ (Kd.V (Kd.slice 5 (Kd.int .u8)) 22 w' w.heap.size (fun k_ => (P1_ k_ ∨ w.heap.size ≤ k_) ∧ some k_ ≠ (.slice Ao31 y330.length co31 : Value).ownBlock ∧ some k_ ≠ (v334 : Value).ownBlock ∧ some k_ ≠ (v337 : Value).ownBlock ∧ some k_ ≠ (s_.2.1 : Value).ownBlock ∧ some k_ ≠ (s_.2.2 : Value).ownBlock) (.slice (some ad345) y325.length c1) y325) ∧ (Kd.N (Kd.slice 5 (Kd.int .u8)) 22 w' w.heap.size (fun k_ => (P1_ k_ ∨ w.heap.size ≤ k_) ∧ some k_ ≠ (v334 : Value).ownBlock ∧ some k_ ≠ (v337 : Value).ownBlock ∧ some k_ ≠ (s_.2.1 : Value).ownBlock ∧ some k_ ≠ (s_.2.2 : Value).ownBlock) (.slice Ao31 y330.length co31) y330) ∧ (Kd.N k39 39 w' w.heap.size (fun k_ => (P1_ k_ ∨ w.heap.size ≤ k_) ∧ some k_ ≠ (.slice Ao31 y330.length co31 : Value).ownBlock ∧ some k_ ≠ (v337 : Value).ownBlock ∧ some k_ ≠ (s_.2.1 : Value).ownBlock ∧ some k_ ≠ (s_.2.2 : Value).ownBlock) v334 t333) ∧ (Kd.N k39 39 w' w.heap.size (fun k_ => (P1_ k_ ∨ w.heap.size ≤ k_) ∧ some k_ ≠ (.slice Ao31 y330.length co31 : Value).ownBlock ∧ some k_ ≠ (v334 : Value).ownBlock ∧ some k_ ≠ (s_.2.1 : Value).ownBlock ∧ some k_ ≠ (s_.2.2 : Value).ownBlock) v337 t336) ∧ (Kd.N (Kd.slice 5 (Kd.int .u8)) 22 w' w.heap.size (fun k_ => (P1_ k_ ∨ w.heap.size ≤ k_) ∧ some k_ ≠ (.slice Ao31 y330.length co31 : Value).ownBlock ∧ some k_ ≠ (v334 : Value).ownBlock ∧ some k_ ≠ (v337 : Value).ownBlock ∧ some k_ ≠ (s_.2.2 : Value).ownBlock) s_.2.1 y342) ∧ (Kd.N (Kd.slice 5 (Kd.int .u8)) 22 w' w.heap.size (fun k_ => (P1_ k_ ∨ w.heap.size ≤ k_) ∧ some k_ ≠ (.slice Ao31 y330.length co31 : Value).ownBlock ∧ some k_ ≠ (v334 : Value).ownBlock ∧ some k_ ≠ (v337 : Value).ownBlock ∧ some k_ ≠ (s_.2.1 : Value).ownBlock) s_.2.2 y346) ∧ (Below w.heap.size w w')) ?_ ?_
          rotate_left
          ·intro hCont
           refine two_ (i := 1) (j := 8) (Ni := some 42) (Nj := some 49) #[true, true, true, false, true, true, true, true, false, false, false, false] #[true, false, true, false, true, true, true, true, true, false, false, false] rfl rfl rfl rfl (two_of HT_.out (by kernel_rfl)) (by decide) (by decide) (fun K hK => ?_) (fun K hK => ?_)
           ·skip
            refine Kd.N_lit_step (Kd.slice 5 (Kd.int .u8)) _ 22 ?hg (N' := 42) ?hd (xs := ([] : List (List Int))) (inner := []) (ok := (fun k_ => (P1_ k_ ∨ w.heap.size ≤ k_) ∧ some k_ ≠ (.slice Ao31 y330.length co31 : Value).ownBlock ∧ some k_ ≠ (v334 : Value).ownBlock ∧ some k_ ≠ (v337 : Value).ownBlock)) (okp := (fun k_ => (P1_ k_ ∨ w.heap.size ≤ k_) ∧ some k_ ≠ (.slice Ao31 y330.length co31 : Value).ownBlock ∧ some k_ ≠ (v334 : Value).ownBlock ∧ some k_ ≠ (v337 : Value).ownBlock)) ?hr ?hp (fun _ hk => hk) ((show ∀ k_, w33.heap.size ≤ k_ → (fun k_ => (P1_ k_ ∨ w.heap.size ≤ k_) ∧ some k_ ≠ (.slice Ao31 y330.length co31 : Value).ownBlock ∧ some k_ ≠ (v334 : Value).ownBlock ∧ some k_ ≠ (v337 : Value).ownBlock) k_ from fun k_ hk => ⟨(.inr (Nat.le_trans (below_size (by repeat (with_reducible first | exact HB.out | apply bA | apply bN | apply bD))) hk)), Kd.fresh' (Kd.N_lt (by (with_reducible repeat (first | apply nA | apply nN | apply nD)); exact HO332.out)) k_ hk, Kd.fresh' (Kd.N_lt (by (with_reducible repeat (first | apply nA | apply nN | apply nD)); exact HO335.out)) k_ hk, Kd.fresh' (Kd.N_lt (by (with_reducible repeat (first | apply nA | apply nN | apply nD)); exact HO338.out)) k_ hk⟩) _ (Nat.le_refl _)) (Below.refl _ _) (Nat.le_refl _) (by simp) ?_; (case hd => rfl); (case hg => rfl); (case hr => first | (go_simp; done) | (go_simp; rfl)); (case hp => exact (Reps.none _ _))
            intro v340 w34 ho35 hb hg_ hnew_
            have HS0_ := (hb.cell (World.block_lt_of_cell? _ _ (hHeld))).trans (hHeld)
            clear hg_ hnew_
            rw [← Ny339.out] at ho35
            have n0_ := am (Kd.V_elder' (by (with_reducible repeat (first | apply vA | apply vN | apply vD)); exact HO1.out) (Kd.N_base ho35) hb)
            have n1_ := am (Kd.V_elder' (by (with_reducible repeat (first | apply vA | apply vN | apply vD)); exact HO321.out) (Kd.N_base ho35) hb)
            have n2_ := am (Kd.V_elder' (by (with_reducible repeat (first | apply vA | apply vN | apply vD)); exact HO329.out) (Kd.N_base ho35) hb)
            have n3_ := am (Kd.N_elder' (by (with_reducible repeat (first | apply nA | apply nN | apply nD)); exact HO332.out) (Kd.N_base ho35) hb)
            have n4_ := am (Kd.N_elder' (by (with_reducible repeat (first | apply nA | apply nN | apply nD)); exact HO335.out) (Kd.N_base ho35) hb)
            have n5_ := am (Kd.N_elder' (by (with_reducible repeat (first | apply nA | apply nN | apply nD)); exact HO338.out) (Kd.N_base ho35) hb)
            have n6_ := am (Kd.V_elder' (by (with_reducible repeat (first | apply vA | apply vN | apply vD)); exact HL345_0.out) (Kd.N_base ho35) hb)
            have n7_ := am (Kd.N_lower ho35 (below_size (by repeat (with_reducible first | exact HB.out | apply bA | apply bN | apply bD))))
            have n8_ := am (Kd.C_below (by repeat (first | (with_reducible exact HR345_0.out) | (with_reducible refine Kd.C_alloc ?_ _) | (with_reducible refine Kd.C_drewN ?_ _) | (with_reducible refine Kd.C_drew ?_) | exact HR345_0.out)) hb)
            have n9_ := am (below_step (by repeat (with_reducible first | exact HB.out | apply bA | apply bN | apply bD)) hb)
            clear HO1
            clear HO321
            clear HO329
            clear HO332
            clear HO335
            clear HO338
            clear HL345_0
            clear HR345_0
            clear HB
            have HO1 := n0_
            have HO321 := n1_
            have HO329 := n2_
            have HO332 := n3_
            have HO335 := n4_
            have HO338 := n5_
            have HL345_0 := n6_
            have HO341 := n7_
            have HR345_0 := n8_
            have HB := n9_
            clear n0_ n1_ n2_ n3_ n4_ n5_ n6_ n7_ n8_ n9_
            clear hb ho35
            refine hK.out _ _ (HS0_) (fun hHeld => ?_)
            clear hK K
            refine norm_ (a' := ?_) ?_ ?_
            rotate_left
            ·show Act.put _ (some 42) _ = _
             simp only [Act.put, List.setIfInBounds_toArray, List.set_cons_zero, List.set_cons_succ, i64_w, i32_w]
             rfl
            refine two_ (i := 3) (j := 8) (Ni := some 44) (Nj := some 49) #[true, true, true, true, true, true, true, true, false, false, false, false] #[true, true, true, false, true, true, true, true, true, false, false, false] rfl rfl rfl rfl (two_of HT_.out (by kernel_rfl)) (by decide) (by decide) (fun K hK => ?_) (fun K hK => ?_)
            ·skip
             refine Kd.N_append_rows_step (Kd.slice 5 (Kd.int .u8)) (w0 := w) w.heap.size (by rfl) (.tmp 42) (.tmp 43) 23 22 (.slice none 0 0) 24 rfl Try.underlying23 info22 rfl (by decide) (by omega) v340 y339 l1 _ _ _ (fun k_ => (P1_ k_ ∨ w.heap.size ≤ k_) ∧ some k_ ≠ (.slice Ao31 y330.length co31 : Value).ownBlock ∧ some k_ ≠ (v334 : Value).ownBlock ∧ some k_ ≠ (v337 : Value).ownBlock) (fun k_ => ((fun k_ => (P1_ k_ ∨ w.heap.size ≤ k_) ∧ some k_ ≠ (.slice Ao31 y330.length co31 : Value).ownBlock ∧ some k_ ≠ (v334 : Value).ownBlock ∧ some k_ ≠ (v337 : Value).ownBlock)) k_ ∧ some k_ ≠ (v340 : Value).ownBlock) rfl rfl ?aO ?aR (fun _ hk => hk) ?aF ?aB ?aS ?aL ?_
             (case aR => exact (by skip; exact Kd.V_F (Kd.V_mono (ok' := (fun k_ => ((fun k_ => (P1_ k_ ∨ w.heap.size ≤ k_) ∧ some k_ ≠ (.slice Ao31 y330.length co31 : Value).ownBlock ∧ some k_ ≠ (v334 : Value).ownBlock ∧ some k_ ≠ (v337 : Value).ownBlock)) k_ ∧ some k_ ≠ (v340 : Value).ownBlock)) (HO1.out) (fun k_ hk => ⟨⟨hk.1.1.1.1, ⟨hk.1.1.1.2, ⟨hk.1.1.2, hk.1.2⟩⟩⟩, hk.2⟩))))
             (case aB => exact (by repeat (with_reducible first | exact HB.out | apply bA | apply bN | apply bD)))
             (case aF => exact (fun k_ hk => ⟨(.inr (Nat.le_trans (below_size (by repeat (with_reducible first | exact HB.out | apply bA | apply bN | apply bD))) hk)), Kd.fresh' (Kd.N_lt (by (with_reducible repeat (first | apply nA | apply nN | apply nD)); exact HO332.out)) k_ hk, Kd.fresh' (Kd.N_lt (by (with_reducible repeat (first | apply nA | apply nN | apply nD)); exact HO335.out)) k_ hk, Kd.fresh' (Kd.N_lt (by (with_reducible repeat (first | apply nA | apply nN | apply nD)); exact HO338.out)) k_ hk⟩))
             (case aO => exact (by (with_reducible repeat (first | apply nA | apply nN | apply nD)); exact HO341.out))
             (case aS => exact (below_size (by repeat (with_reducible first | exact HB.out | apply bA | apply bN | apply bD))))
             (case aL => have := LMc17.out; omega)
             intro v343 w36 ho hb hg hat
             have HS0_ := cell_grown hg (hHeld) (fun e_ => by obtain ⟨ad_, A_, c_, ee_, hx_, _, _⟩ := at_L9 (Kd.V_reads' hs1).2.2 _ (of_eq_true p345) (of_eq_true q345); cases ee_; exact absurd (World.block_lt_of_cell? _ _ hx_) (Nat.not_lt.mpr (Kd.N_base HO341.out _ e_.symm)))
             rw [← Ny342.out] at ho
             have n0_ := am (Kd.V_afterv (ok := (fun k_ => (P1_ k_ ∨ w.heap.size ≤ k_) ∧ some k_ ≠ (.slice Ao31 y330.length co31 : Value).ownBlock ∧ some k_ ≠ (v334 : Value).ownBlock ∧ some k_ ≠ (v337 : Value).ownBlock)) (by (with_reducible repeat (first | apply vA | apply vN | apply vD)); exact Kd.V_mono HO1.out (fun _ hk => ⟨⟨hk.1.1.1.1, ⟨hk.1.1.1.2, ⟨hk.1.1.2, hk.1.2⟩⟩⟩, hk.2⟩)) hg hat)
             have n1_ := am (Kd.V_afterv (ok := (fun k_ => (P1_ k_ ∨ w.heap.size ≤ k_) ∧ some k_ ≠ (.slice Ao31 y330.length co31 : Value).ownBlock ∧ some k_ ≠ (v334 : Value).ownBlock ∧ some k_ ≠ (v337 : Value).ownBlock)) (by (with_reducible repeat (first | apply vA | apply vN | apply vD)); exact Kd.V_mono HO321.out (fun _ hk => ⟨⟨hk.1.1.1.1, ⟨hk.1.1.1.2, ⟨hk.1.1.2, hk.1.2⟩⟩⟩, hk.2⟩)) hg hat)
             have n2_ := am (Kd.V_afterv (ok := (fun k_ => (P1_ k_ ∨ w.heap.size ≤ k_) ∧ some k_ ≠ (.slice Ao31 y330.length co31 : Value).ownBlock ∧ some k_ ≠ (v334 : Value).ownBlock ∧ some k_ ≠ (v337 : Value).ownBlock)) (by (with_reducible repeat (first | apply vA | apply vN | apply vD)); exact Kd.V_mono HO329.out (fun _ hk => ⟨⟨hk.1.1.1.1, ⟨hk.1.1.1.2, ⟨hk.1.1.2, hk.1.2⟩⟩⟩, hk.2⟩)) hg hat)
             have n3_ := am (Kd.N_afterv (ok := (fun k_ => (P1_ k_ ∨ w.heap.size ≤ k_) ∧ some k_ ≠ (v334 : Value).ownBlock ∧ some k_ ≠ (v337 : Value).ownBlock)) (by (with_reducible repeat (first | apply nA | apply nN | apply nD)); exact Kd.N_mono HO332.out (fun _ hk => ⟨⟨hk.1.1.1, ⟨hk.1.1.2, hk.1.2⟩⟩, hk.2⟩)) hg hat)
             have n4_ := am (Kd.N_afterv (ok := (fun k_ => (P1_ k_ ∨ w.heap.size ≤ k_) ∧ some k_ ≠ (.slice Ao31 y330.length co31 : Value).ownBlock ∧ some k_ ≠ (v337 : Value).ownBlock)) (by (with_reducible repeat (first | apply nA | apply nN | apply nD)); exact Kd.N_mono HO335.out (fun _ hk => ⟨⟨hk.1.1.1, ⟨hk.1.1.2, hk.1.2⟩⟩, hk.2⟩)) hg hat)
             have n5_ := am (Kd.N_afterv (ok := (fun k_ => (P1_ k_ ∨ w.heap.size ≤ k_) ∧ some k_ ≠ (.slice Ao31 y330.length co31 : Value).ownBlock ∧ some k_ ≠ (v334 : Value).ownBlock)) (by (with_reducible repeat (first | apply nA | apply nN | apply nD)); exact HO338.out) hg hat)
             have n6_ := am (Kd.V_afterv (ok := (fun k_ => (P1_ k_ ∨ w.heap.size ≤ k_) ∧ some k_ ≠ (.slice Ao31 y330.length co31 : Value).ownBlock ∧ some k_ ≠ (v334 : Value).ownBlock ∧ some k_ ≠ (v337 : Value).ownBlock)) (by (with_reducible repeat (first | apply vA | apply vN | apply vD)); exact Kd.V_mono HL345_0.out (fun _ hk => ⟨⟨hk.1.1.1.1, ⟨hk.1.1.1.2, ⟨hk.1.1.2, hk.1.2⟩⟩⟩, hk.2⟩)) hg hat)
             have n7_ := am (hb)
             have n8_ := am (ho)
             clear HO1
             clear HO321
             clear HO329
             clear HO332
             clear HO335
             clear HO338
             clear HL345_0
             clear HB
             clear HO341
             have HO1 := n0_
             have HO321 := n1_
             have HO329 := n2_
             have HO332 := n3_
             have HO335 := n4_
             have HO338 := n5_
             have HL345_0 := n6_
             have HB := n7_
             have HO344 := n8_
             clear n0_ n1_ n2_ n3_ n4_ n5_ n6_ n7_ n8_
             clear ho hb hg hat
             refine hK.out _ _ (HS0_) (fun hHeld => ?_)
             clear hK K
             refine norm_ (a' := ?_) ?_ ?_
             rotate_left
             ·show Act.put _ (some 44) _ = _
              simp only [Act.put, List.setIfInBounds_toArray, List.set_cons_zero, List.set_cons_succ, i64_w, i32_w]
              rfl
             refine one_ (i := 8) (N := some 49) #[true, true, true, true, true, true, true, true, true, false, false, false] rfl rfl (one_of HT_.out (by kernel_rfl)) (by decide) (fun K hK => ?_)
             refine Kd.N_lit_step (Kd.slice 5 (Kd.int .u8)) _ 22 ?hg (N' := 49) ?hd (xs := ([rd_L9 l1 (ji8)] : List (List Int))) (inner := [.slice A345_0 (rd_L9 l1 (ji8)).length c345_0]) (ok := (fun k_ => (P1_ k_ ∨ w.heap.size ≤ k_) ∧ some k_ ≠ (.slice Ao31 y330.length co31 : Value).ownBlock ∧ some k_ ≠ (v334 : Value).ownBlock ∧ some k_ ≠ (v337 : Value).ownBlock ∧ some k_ ≠ (v343 : Value).ownBlock)) (okp := (fun k_ => (P1_ k_ ∨ w.heap.size ≤ k_) ∧ some k_ ≠ (.slice Ao31 y330.length co31 : Value).ownBlock ∧ some k_ ≠ (v334 : Value).ownBlock ∧ some k_ ≠ (v337 : Value).ownBlock ∧ some k_ ≠ (v343 : Value).ownBlock)) ?hr ?hp (fun _ hk => hk) ((show ∀ k_, w36.heap.size ≤ k_ → (fun k_ => (P1_ k_ ∨ w.heap.size ≤ k_) ∧ some k_ ≠ (.slice Ao31 y330.length co31 : Value).ownBlock ∧ some k_ ≠ (v334 : Value).ownBlock ∧ some k_ ≠ (v337 : Value).ownBlock ∧ some k_ ≠ (v343 : Value).ownBlock) k_ from fun k_ hk => ⟨(.inr (Nat.le_trans (below_size (by repeat (with_reducible first | exact HB.out | apply bA | apply bN | apply bD))) hk)), Kd.fresh' (Kd.N_lt (by (with_reducible repeat (first | apply nA | apply nN | apply nD)); exact HO332.out)) k_ hk, Kd.fresh' (Kd.N_lt (by (with_reducible repeat (first | apply nA | apply nN | apply nD)); exact HO335.out)) k_ hk, Kd.fresh' (Kd.N_lt (by (with_reducible repeat (first | apply nA | apply nN | apply nD)); exact HO338.out)) k_ hk, Kd.fresh' (Kd.N_lt (by (with_reducible repeat (first | apply nA | apply nN | apply nD)); exact HO344.out)) k_ hk⟩) _ (Nat.le_refl _)) (Below.refl _ _) (Nat.le_refl _) (by simp) ?_; (case hd => rfl); (case hg => rfl); (case hr => first | (go_simp; done) | (go_simp; rfl)); (case hp => exact (Reps.one (show Kd.FK (Kd.slice 5 (Kd.int .u8)) _ _ (rd_L9 l1 (ji8)) [.slice A345_0 (rd_L9 l1 (ji8)).length c345_0] from (Kd.FK_slice_mk (Kd.V_reads' (Kd.V_mono (ok' := (fun k_ => (P1_ k_ ∨ w.heap.size ≤ k_) ∧ some k_ ≠ (.slice Ao31 y330.length co31 : Value).ownBlock ∧ some k_ ≠ (v334 : Value).ownBlock ∧ some k_ ≠ (v337 : Value).ownBlock ∧ some k_ ≠ (v343 : Value).ownBlock)) (HL345_0.out) (fun k_ hk => ⟨hk.1.1, ⟨hk.1.2.1, ⟨hk.1.2.2.1, ⟨hk.1.2.2.2, hk.2⟩⟩⟩⟩))).2.1 (Kd.V_F (Kd.V_mono (ok' := (fun k_ => (P1_ k_ ∨ w.heap.size ≤ k_) ∧ some k_ ≠ (.slice Ao31 y330.length co31 : Value).ownBlock ∧ some k_ ≠ (v334 : Value).ownBlock ∧ some k_ ≠ (v337 : Value).ownBlock ∧ some k_ ≠ (v343 : Value).ownBlock)) (HL345_0.out) (fun k_ hk => ⟨hk.1.1, ⟨hk.1.2.1, ⟨hk.1.2.2.1, ⟨hk.1.2.2.2, hk.2⟩⟩⟩⟩))))) (Reps.none _ _)))
             intro v347 w37 ho38 hb hg_ hnew_
             have HS0_ := (hb.cell (World.block_lt_of_cell? _ _ (hHeld))).trans (hHeld)
             clear hg_ hnew_
             rw [← Ny346.out] at ho38
             have n0_ := am (Kd.V_elder' (by (with_reducible repeat (first | apply vA | apply vN | apply vD)); exact HO1.out) (Kd.N_base ho38) hb)
             have n1_ := am (Kd.V_elder' (by (with_reducible repeat (first | apply vA | apply vN | apply vD)); exact HO321.out) (Kd.N_base ho38) hb)
             have n2_ := am (Kd.V_elder' (by (with_reducible repeat (first | apply vA | apply vN | apply vD)); exact HO329.out) (Kd.N_base ho38) hb)
             have n3_ := am (Kd.N_elder' (by (with_reducible repeat (first | apply nA | apply nN | apply nD)); exact HO332.out) (Kd.N_base ho38) hb)
             have n4_ := am (Kd.N_elder' (by (with_reducible repeat (first | apply nA | apply nN | apply nD)); exact HO335.out) (Kd.N_base ho38) hb)
             have n5_ := am (Kd.N_elder' (by (with_reducible repeat (first | apply nA | apply nN | apply nD)); exact HO338.out) (Kd.N_base ho38) hb)
             have n6_ := am (Kd.V_elder' (by (with_reducible repeat (first | apply vA | apply vN | apply vD)); exact HL345_0.out) (Kd.N_base ho38) hb)
             have n7_ := am (Kd.N_elder' (by (with_reducible repeat (first | apply nA | apply nN | apply nD)); exact HO344.out) (Kd.N_base ho38) hb)
             have n8_ := am (Kd.N_lower ho38 (below_size (by repeat (with_reducible first | exact HB.out | apply bA | apply bN | apply bD))))
             have n9_ := am (below_step (by repeat (with_reducible first | exact HB.out | apply bA | apply bN | apply bD)) hb)
             clear HO1
             clear HO321
             clear HO329
             clear HO332
             clear HO335
             clear HO338
             clear HL345_0
             clear HO344
             clear HB
             have HO1 := n0_
             have HO321 := n1_
             have HO329 := n2_
             have HO332 := n3_
             have HO335 := n4_
             have HO338 := n5_
             have HL345_0 := n6_
             have HO344 := n7_
             have HO348 := n8_
             have HB := n9_
             clear n0_ n1_ n2_ n3_ n4_ n5_ n6_ n7_ n8_ n9_
             clear hb ho38
             refine hK.out _ _ (HS0_) (fun hHeld => ?_)
             clear hK K
             refine norm_ (a' := ?_) ?_ ?_
             rotate_left
             ·show Act.put _ (some 49) _ = _
              simp only [Act.put, List.setIfInBounds_toArray, List.set_cons_zero, List.set_cons_succ, i64_w, i32_w]
              rfl
             exact norm_ (by simp only [putAll, Act.put, List.setIfInBounds_toArray, List.set_cons_zero, List.set_cons_succ]) (hCont (v340, v343, v347) _ ⟨hHeld, (by (with_reducible repeat (first | apply vA | apply vN | apply vD)); exact Kd.V_mono HL345_0.out (fun _ hk => ⟨hk.1.1.1, ⟨hk.1.1.2.1, ⟨hk.1.1.2.2.1, ⟨hk.1.1.2.2.2, ⟨hk.1.2, hk.2⟩⟩⟩⟩⟩)), (by (with_reducible repeat (first | apply vA | apply vN | apply vD)); exact Kd.V_mono HO1.out (fun _ hk => ⟨hk.1.1.1, ⟨hk.1.1.2.1, ⟨hk.1.1.2.2.1, ⟨hk.1.1.2.2.2, ⟨hk.1.2, hk.2⟩⟩⟩⟩⟩)), (by (with_reducible repeat (first | apply vA | apply vN | apply vD)); exact Kd.V_mono HO321.out (fun _ hk => ⟨hk.1.1.1, ⟨hk.1.1.2.1, ⟨hk.1.1.2.2.1, ⟨hk.1.1.2.2.2, ⟨hk.1.2, hk.2⟩⟩⟩⟩⟩)), (by (with_reducible repeat (first | apply vA | apply vN | apply vD)); exact Kd.V_mono HO329.out (fun _ hk => ⟨hk.1.1.1, ⟨hk.1.1.2.1, ⟨hk.1.1.2.2.1, ⟨hk.1.1.2.2.2, ⟨hk.1.2, hk.2⟩⟩⟩⟩⟩)), (by (with_reducible repeat (first | apply nA | apply nN | apply nD)); exact Kd.N_mono HO332.out (fun _ hk => ⟨hk.1.1.1, ⟨hk.1.1.2.1, ⟨hk.1.1.2.2, ⟨hk.1.2, hk.2⟩⟩⟩⟩)), (by (with_reducible repeat (first | apply nA | apply nN | apply nD)); exact Kd.N_mono HO335.out (fun _ hk => ⟨hk.1.1.1, ⟨hk.1.1.2.1, ⟨hk.1.1.2.2, ⟨hk.1.2, hk.2⟩⟩⟩⟩)), (by (with_reducible repeat (first | apply nA | apply nN | apply nD)); exact Kd.N_mono HO338.out (fun _ hk => ⟨hk.1.1.1, ⟨hk.1.1.2.1, ⟨hk.1.1.2.2, ⟨hk.1.2, hk.2⟩⟩⟩⟩)), (by (with_reducible repeat (first | apply nA | apply nN | apply nD)); exact Kd.N_mono HO344.out (fun _ hk => ⟨hk.1.1, ⟨hk.1.2.1, ⟨hk.1.2.2.1, ⟨hk.1.2.2.2, hk.2⟩⟩⟩⟩)), (by (with_reducible repeat (first | apply nA | apply nN | apply nD)); exact HO348.out), (by repeat (with_reducible first | exact HB.out | apply bA | apply bN | apply bD))⟩)
            ·skip
             refine Kd.N_lit_step (Kd.slice 5 (Kd.int .u8)) _ 22 ?hg (N' := 49) ?hd (xs := ([rd_L9 l1 (ji8)] : List (List Int))) (inner := [.slice A345_0 (rd_L9 l1 (ji8)).length c345_0]) (ok := (fun k_ => (P1_ k_ ∨ w.heap.size ≤ k_) ∧ some k_ ≠ (.slice Ao31 y330.length co31 : Value).ownBlock ∧ some k_ ≠ (v334 : Value).ownBlock ∧ some k_ ≠ (v337 : Value).ownBlock ∧ some k_ ≠ (v340 : Value).ownBlock)) (okp := (fun k_ => (P1_ k_ ∨ w.heap.size ≤ k_) ∧ some k_ ≠ (.slice Ao31 y330.length co31 : Value).ownBlock ∧ some k_ ≠ (v334 : Value).ownBlock ∧ some k_ ≠ (v337 : Value).ownBlock ∧ some k_ ≠ (v340 : Value).ownBlock)) ?hr ?hp (fun _ hk => hk) ((show ∀ k_, w34.heap.size ≤ k_ → (fun k_ => (P1_ k_ ∨ w.heap.size ≤ k_) ∧ some k_ ≠ (.slice Ao31 y330.length co31 : Value).ownBlock ∧ some k_ ≠ (v334 : Value).ownBlock ∧ some k_ ≠ (v337 : Value).ownBlock ∧ some k_ ≠ (v340 : Value).ownBlock) k_ from fun k_ hk => ⟨(.inr (Nat.le_trans (below_size (by repeat (with_reducible first | exact HB.out | apply bA | apply bN | apply bD))) hk)), Kd.fresh' (Kd.N_lt (by (with_reducible repeat (first | apply nA | apply nN | apply nD)); exact HO332.out)) k_ hk, Kd.fresh' (Kd.N_lt (by (with_reducible repeat (first | apply nA | apply nN | apply nD)); exact HO335.out)) k_ hk, Kd.fresh' (Kd.N_lt (by (with_reducible repeat (first | apply nA | apply nN | apply nD)); exact HO338.out)) k_ hk, Kd.fresh' (Kd.N_lt (by (with_reducible repeat (first | apply nA | apply nN | apply nD)); exact HO341.out)) k_ hk⟩) _ (Nat.le_refl _)) (Below.refl _ _) (Nat.le_refl _) (by simp) ?_; (case hd => rfl); (case hg => rfl); (case hr => first | (go_simp; done) | (go_simp; rfl)); (case hp => exact (Reps.one (show Kd.FK (Kd.slice 5 (Kd.int .u8)) _ _ (rd_L9 l1 (ji8)) [.slice A345_0 (rd_L9 l1 (ji8)).length c345_0] from (Kd.FK_slice_mk (Kd.V_reads' (Kd.V_mono (ok' := (fun k_ => (P1_ k_ ∨ w.heap.size ≤ k_) ∧ some k_ ≠ (.slice Ao31 y330.length co31 : Value).ownBlock ∧ some k_ ≠ (v334 : Value).ownBlock ∧ some k_ ≠ (v337 : Value).ownBlock ∧ some k_ ≠ (v340 : Value).ownBlock)) (HL345_0.out) (fun k_ hk => ⟨hk.1.1.1.1, ⟨hk.1.1.1.2, ⟨hk.1.1.2, ⟨hk.1.2, hk.2⟩⟩⟩⟩))).2.1 (Kd.V_F (Kd.V_mono (ok' := (fun k_ => (P1_ k_ ∨ w.heap.size ≤ k_) ∧ some k_ ≠ (.slice Ao31 y330.length co31 : Value).ownBlock ∧ some k_ ≠ (v334 : Value).ownBlock ∧ some k_ ≠ (v337 : Value).ownBlock ∧ some k_ ≠ (v340 : Value).ownBlock)) (HL345_0.out) (fun k_ hk => ⟨hk.1.1.1.1, ⟨hk.1.1.1.2, ⟨hk.1.1.2, ⟨hk.1.2, hk.2⟩⟩⟩⟩))))) (Reps.none _ _)))
             intro v347 w36 ho37 hb hg_ hnew_
             have HS0_ := (hb.cell (World.block_lt_of_cell? _ _ (hHeld))).trans (hHeld)
             clear hg_ hnew_
             rw [← Ny346.out] at ho37
             have n0_ := am (Kd.V_elder' (by (with_reducible repeat (first | apply vA | apply vN | apply vD)); exact HO1.out) (Kd.N_base ho37) hb)
             have n1_ := am (Kd.V_elder' (by (with_reducible repeat (first | apply vA | apply vN | apply vD)); exact HO321.out) (Kd.N_base ho37) hb)
             have n2_ := am (Kd.V_elder' (by (with_reducible repeat (first | apply vA | apply vN | apply vD)); exact HO329.out) (Kd.N_base ho37) hb)
             have n3_ := am (Kd.N_elder' (by (with_reducible repeat (first | apply nA | apply nN | apply nD)); exact HO332.out) (Kd.N_base ho37) hb)
             have n4_ := am (Kd.N_elder' (by (with_reducible repeat (first | apply nA | apply nN | apply nD)); exact HO335.out) (Kd.N_base ho37) hb)
             have n5_ := am (Kd.N_elder' (by (with_reducible repeat (first | apply nA | apply nN | apply nD)); exact HO338.out) (Kd.N_base ho37) hb)
             have n6_ := am (Kd.V_elder' (by (with_reducible repeat (first | apply vA | apply vN | apply vD)); exact HL345_0.out) (Kd.N_base ho37) hb)
             have n7_ := am (Kd.N_elder' (by (with_reducible repeat (first | apply nA | apply nN | apply nD)); exact HO341.out) (Kd.N_base ho37) hb)
             have n8_ := am (Kd.N_lower ho37 (below_size (by repeat (with_reducible first | exact HB.out | apply bA | apply bN | apply bD))))
             have n9_ := am (Kd.C_below (by repeat (first | (with_reducible exact HR345_0.out) | (with_reducible refine Kd.C_alloc ?_ _) | (with_reducible refine Kd.C_drewN ?_ _) | (with_reducible refine Kd.C_drew ?_) | exact HR345_0.out)) hb)
             have n10_ := am (below_step (by repeat (with_reducible first | exact HB.out | apply bA | apply bN | apply bD)) hb)
             clear HO1
             clear HO321
             clear HO329
             clear HO332
             clear HO335
             clear HO338
             clear HL345_0
             clear HO341
             clear HR345_0
             clear HB
             have HO1 := n0_
             have HO321 := n1_
             have HO329 := n2_
             have HO332 := n3_
             have HO335 := n4_
             have HO338 := n5_
             have HL345_0 := n6_
             have HO341 := n7_
             have HO348 := n8_
             have HR345_0 := n9_
             have HB := n10_
             clear n0_ n1_ n2_ n3_ n4_ n5_ n6_ n7_ n8_ n9_ n10_
             clear hb ho37
             refine hK.out _ _ (HS0_) (fun hHeld => ?_)
             clear hK K
             refine norm_ (a' := ?_) ?_ ?_
             rotate_left
             ·show Act.put _ (some 49) _ = _
              simp only [Act.put, List.setIfInBounds_toArray, List.set_cons_zero, List.set_cons_succ, i64_w, i32_w]
              rfl
             refine one_ (i := 3) (N := some 44) #[true, true, true, true, true, true, true, true, true, false, false, false] rfl rfl (one_of HT_.out (by kernel_rfl)) (by decide) (fun K hK => ?_)
             refine Kd.N_append_rows_step (Kd.slice 5 (Kd.int .u8)) (w0 := w) w.heap.size (by rfl) (.tmp 42) (.tmp 43) 23 22 (.slice none 0 0) 24 rfl Try.underlying23 info22 rfl (by decide) (by omega) v340 y339 l1 _ _ _ (fun k_ => (P1_ k_ ∨ w.heap.size ≤ k_) ∧ some k_ ≠ (.slice Ao31 y330.length co31 : Value).ownBlock ∧ some k_ ≠ (v334 : Value).ownBlock ∧ some k_ ≠ (v337 : Value).ownBlock ∧ some k_ ≠ (v347 : Value).ownBlock) (fun k_ => ((fun k_ => (P1_ k_ ∨ w.heap.size ≤ k_) ∧ some k_ ≠ (.slice Ao31 y330.length co31 : Value).ownBlock ∧ some k_ ≠ (v334 : Value).ownBlock ∧ some k_ ≠ (v337 : Value).ownBlock ∧ some k_ ≠ (v347 : Value).ownBlock)) k_ ∧ some k_ ≠ (v340 : Value).ownBlock) rfl rfl ?aO ?aR (fun _ hk => hk) ?aF ?aB ?aS ?aL ?_
             (case aR => exact (by skip; exact Kd.V_F (Kd.V_mono (ok' := (fun k_ => ((fun k_ => (P1_ k_ ∨ w.heap.size ≤ k_) ∧ some k_ ≠ (.slice Ao31 y330.length co31 : Value).ownBlock ∧ some k_ ≠ (v334 : Value).ownBlock ∧ some k_ ≠ (v337 : Value).ownBlock ∧ some k_ ≠ (v347 : Value).ownBlock)) k_ ∧ some k_ ≠ (v340 : Value).ownBlock)) (HO1.out) (fun k_ hk => ⟨⟨hk.1.1.1.1.1, ⟨hk.1.1.1.1.2, ⟨hk.1.1.1.2, ⟨hk.1.1.2, hk.2⟩⟩⟩⟩, hk.1.2⟩))))
             (case aB => exact (by repeat (with_reducible first | exact HB.out | apply bA | apply bN | apply bD)))
             (case aF => exact (fun k_ hk => ⟨(.inr (Nat.le_trans (below_size (by repeat (with_reducible first | exact HB.out | apply bA | apply bN | apply bD))) hk)), Kd.fresh' (Kd.N_lt (by (with_reducible repeat (first | apply nA | apply nN | apply nD)); exact HO332.out)) k_ hk, Kd.fresh' (Kd.N_lt (by (with_reducible repeat (first | apply nA | apply nN | apply nD)); exact HO335.out)) k_ hk, Kd.fresh' (Kd.N_lt (by (with_reducible repeat (first | apply nA | apply nN | apply nD)); exact HO338.out)) k_ hk, Kd.fresh' (Kd.N_lt (by (with_reducible repeat (first | apply nA | apply nN | apply nD)); exact HO348.out)) k_ hk⟩))
             (case aO => exact (by (with_reducible repeat (first | apply nA | apply nN | apply nD)); exact Kd.N_mono HO341.out (fun _ hk => ⟨hk.1.1, ⟨hk.1.2.1, ⟨hk.1.2.2.1, ⟨hk.1.2.2.2, hk.2⟩⟩⟩⟩)))
             (case aS => exact (below_size (by repeat (with_reducible first | exact HB.out | apply bA | apply bN | apply bD))))
             (case aL => have := LMc17.out; omega)
             intro v343 w38 ho hb hg hat
             have HS0_ := cell_grown hg (hHeld) (fun e_ => by obtain ⟨ad_, A_, c_, ee_, hx_, _, _⟩ := at_L9 (Kd.V_reads' hs1).2.2 _ (of_eq_true p345) (of_eq_true q345); cases ee_; exact absurd (World.block_lt_of_cell? _ _ hx_) (Nat.not_lt.mpr (Kd.N_base HO341.out _ e_.symm)))
             rw [← Ny342.out] at ho
             have n0_ := am (Kd.V_afterv (ok := (fun k_ => (P1_ k_ ∨ w.heap.size ≤ k_) ∧ some k_ ≠ (.slice Ao31 y330.length co31 : Value).ownBlock ∧ some k_ ≠ (v334 : Value).ownBlock ∧ some k_ ≠ (v337 : Value).ownBlock ∧ some k_ ≠ (v347 : Value).ownBlock)) (by (with_reducible repeat (first | apply vA | apply vN | apply vD)); exact Kd.V_mono HO1.out (fun _ hk => ⟨⟨hk.1.1.1.1.1, ⟨hk.1.1.1.1.2, ⟨hk.1.1.1.2, ⟨hk.1.1.2, hk.2⟩⟩⟩⟩, hk.1.2⟩)) hg hat)
             have n1_ := am (Kd.V_afterv (ok := (fun k_ => (P1_ k_ ∨ w.heap.size ≤ k_) ∧ some k_ ≠ (.slice Ao31 y330.length co31 : Value).ownBlock ∧ some k_ ≠ (v334 : Value).ownBlock ∧ some k_ ≠ (v337 : Value).ownBlock ∧ some k_ ≠ (v347 : Value).ownBlock)) (by (with_reducible repeat (first | apply vA | apply vN | apply vD)); exact Kd.V_mono HO321.out (fun _ hk => ⟨⟨hk.1.1.1.1.1, ⟨hk.1.1.1.1.2, ⟨hk.1.1.1.2, ⟨hk.1.1.2, hk.2⟩⟩⟩⟩, hk.1.2⟩)) hg hat)
             have n2_ := am (Kd.V_afterv (ok := (fun k_ => (P1_ k_ ∨ w.heap.size ≤ k_) ∧ some k_ ≠ (.slice Ao31 y330.length co31 : Value).ownBlock ∧ some k_ ≠ (v334 : Value).ownBlock ∧ some k_ ≠ (v337 : Value).ownBlock ∧ some k_ ≠ (v347 : Value).ownBlock)) (by (with_reducible repeat (first | apply vA | apply vN | apply vD)); exact Kd.V_mono HO329.out (fun _ hk => ⟨⟨hk.1.1.1.1.1, ⟨hk.1.1.1.1.2, ⟨hk.1.1.1.2, ⟨hk.1.1.2, hk.2⟩⟩⟩⟩, hk.1.2⟩)) hg hat)
             have n3_ := am (Kd.N_afterv (ok := (fun k_ => (P1_ k_ ∨ w.heap.size ≤ k_) ∧ some k_ ≠ (v334 : Value).ownBlock ∧ some k_ ≠ (v337 : Value).ownBlock ∧ some k_ ≠ (v347 : Value).ownBlock)) (by (with_reducible repeat (first | apply nA | apply nN | apply nD)); exact Kd.N_mono HO332.out (fun _ hk => ⟨⟨hk.1.1.1.1, ⟨hk.1.1.1.2, ⟨hk.1.1.2, hk.2⟩⟩⟩, hk.1.2⟩)) hg hat)
             have n4_ := am (Kd.N_afterv (ok := (fun k_ => (P1_ k_ ∨ w.heap.size ≤ k_) ∧ some k_ ≠ (.slice Ao31 y330.length co31 : Value).ownBlock ∧ some k_ ≠ (v337 : Value).ownBlock ∧ some k_ ≠ (v347 : Value).ownBlock)) (by (with_reducible repeat (first | apply nA | apply nN | apply nD)); exact Kd.N_mono HO335.out (fun _ hk => ⟨⟨hk.1.1.1.1, ⟨hk.1.1.1.2, ⟨hk.1.1.2, hk.2⟩⟩⟩, hk.1.2⟩)) hg hat)
             have n5_ := am (Kd.N_afterv (ok := (fun k_ => (P1_ k_ ∨ w.heap.size ≤ k_) ∧ some k_ ≠ (.slice Ao31 y330.length co31 : Value).ownBlock ∧ some k_ ≠ (v334 : Value).ownBlock ∧ some k_ ≠ (v347 : Value).ownBlock)) (by (with_reducible repeat (first | apply nA | apply nN | apply nD)); exact Kd.N_mono HO338.out (fun _ hk => ⟨⟨hk.1.1.1, ⟨hk.1.1.2.1, ⟨hk.1.1.2.2, hk.2⟩⟩⟩, hk.1.2⟩)) hg hat)
             have n6_ := am (Kd.V_afterv (ok := (fun k_ => (P1_ k_ ∨ w.heap.size ≤ k_) ∧ some k_ ≠ (.slice Ao31 y330.length co31 : Value).ownBlock ∧ some k_ ≠ (v334 : Value).ownBlock ∧ some k_ ≠ (v337 : Value).ownBlock ∧ some k_ ≠ (v347 : Value).ownBlock)) (by (with_reducible repeat (first | apply vA | apply vN | apply vD)); exact Kd.V_mono HL345_0.out (fun _ hk => ⟨⟨hk.1.1.1.1.1, ⟨hk.1.1.1.1.2, ⟨hk.1.1.1.2, ⟨hk.1.1.2, hk.2⟩⟩⟩⟩, hk.1.2⟩)) hg hat)
             have n7_ := am (Kd.N_afterv (ok := (fun k_ => (P1_ k_ ∨ w.heap.size ≤ k_) ∧ some k_ ≠ (.slice Ao31 y330.length co31 : Value).ownBlock ∧ some k_ ≠ (v334 : Value).ownBlock ∧ some k_ ≠ (v337 : Value).ownBlock)) (by (with_reducible repeat (first | apply nA | apply nN | apply nD)); exact Kd.N_mono HO348.out (fun _ hk => ⟨⟨hk.1, ⟨hk.2.1, ⟨hk.2.2.1, hk.2.2.2.1⟩⟩⟩, hk.2.2.2.2⟩)) hg hat)
             have n8_ := am (hb)
             have n9_ := am (ho)
             clear HO1
             clear HO321
             clear HO329
             clear HO332
             clear HO335
             clear HO338
             clear HL345_0
             clear HO348
             clear HB
             clear HO341
             have HO1 := n0_
             have HO321 := n1_
             have HO329 := n2_
             have HO332 := n3_
             have HO335 := n4_
             have HO338 := n5_
             have HL345_0 := n6_
             have HO348 := n7_
             have HB := n8_
             have HO344 := n9_
             clear n0_ n1_ n2_ n3_ n4_ n5_ n6_ n7_ n8_ n9_
             clear ho hb hg hat
             refine hK.out _ _ (HS0_) (fun hHeld => ?_)
             clear hK K
             refine norm_ (a' := ?_) ?_ ?_
             rotate_left
             ·show Act.put _ (some 44) _ = _
              simp only [Act.put, List.setIfInBounds_toArray, List.set_cons_zero, List.set_cons_succ, i64_w, i32_w]
              rfl
             exact norm_ (by simp only [putAll, Act.put, List.setIfInBounds_toArray, List.set_cons_zero, List.set_cons_succ]) (hCont (v340, v343, v347) _ ⟨hHeld, (by (with_reducible repeat (first | apply vA | apply vN | apply vD)); exact Kd.V_mono HL345_0.out (fun _ hk => ⟨hk.1.1, ⟨hk.1.2.1, ⟨hk.1.2.2.1, ⟨hk.1.2.2.2.1, ⟨hk.2, hk.1.2.2.2.2⟩⟩⟩⟩⟩)), (by (with_reducible repeat (first | apply vA | apply vN | apply vD)); exact Kd.V_mono HO1.out (fun _ hk => ⟨hk.1.1, ⟨hk.1.2.1, ⟨hk.1.2.2.1, ⟨hk.1.2.2.2.1, ⟨hk.2, hk.1.2.2.2.2⟩⟩⟩⟩⟩)), (by (with_reducible repeat (first | apply vA | apply vN | apply vD)); exact Kd.V_mono HO321.out (fun _ hk => ⟨hk.1.1, ⟨hk.1.2.1, ⟨hk.1.2.2.1, ⟨hk.1.2.2.2.1, ⟨hk.2, hk.1.2.2.2.2⟩⟩⟩⟩⟩)), (by (with_reducible repeat (first | apply vA | apply vN | apply vD)); exact Kd.V_mono HO329.out (fun _ hk => ⟨hk.1.1, ⟨hk.1.2.1, ⟨hk.1.2.2.1, ⟨hk.1.2.2.2.1, ⟨hk.2, hk.1.2.2.2.2⟩⟩⟩⟩⟩)), (by (with_reducible repeat (first | apply nA | apply nN | apply nD)); exact Kd.N_mono HO332.out (fun _ hk => ⟨hk.1.1, ⟨hk.1.2.1, ⟨hk.1.2.2.1, ⟨hk.2, hk.1.2.2.2⟩⟩⟩⟩)), (by (with_reducible repeat (first | apply nA | apply nN | apply nD)); exact Kd.N_mono HO335.out (fun _ hk => ⟨hk.1.1, ⟨hk.1.2.1, ⟨hk.1.2.2.1, ⟨hk.2, hk.1.2.2.2⟩⟩⟩⟩)), (by (with_reducible repeat (first | apply nA | apply nN | apply nD)); exact Kd.N_mono HO338.out (fun _ hk => ⟨hk.1.1, ⟨hk.1.2.1, ⟨hk.1.2.2.1, ⟨hk.2, hk.1.2.2.2⟩⟩⟩⟩)), (by (with_reducible repeat (first | apply nA | apply nN | apply nD)); exact HO344.out), (by (with_reducible repeat (first | apply nA | apply nN | apply nD)); exact Kd.N_mono HO348.out (fun _ hk => ⟨hk.1.1, ⟨hk.1.2.1, ⟨hk.1.2.2.1, ⟨hk.1.2.2.2, hk.2⟩⟩⟩⟩)), (by repeat (with_reducible first | exact HB.out | apply bA | apply bN | apply bD))⟩)
           ·skip
            refine Kd.N_lit_step (Kd.slice 5 (Kd.int .u8)) _ 22 ?hg (N' := 49) ?hd (xs := ([rd_L9 l1 (ji8)] : List (List Int))) (inner := [.slice A345_0 (rd_L9 l1 (ji8)).length c345_0]) (ok := (fun k_ => (P1_ k_ ∨ w.heap.size ≤ k_) ∧ some k_ ≠ (.slice Ao31 y330.length co31 : Value).ownBlock ∧ some k_ ≠ (v334 : Value).ownBlock ∧ some k_ ≠ (v337 : Value).ownBlock)) (okp := (fun k_ => (P1_ k_ ∨ w.heap.size ≤ k_) ∧ some k_ ≠ (.slice Ao31 y330.length co31 : Value).ownBlock ∧ some k_ ≠ (v334 : Value).ownBlock ∧ some k_ ≠ (v337 : Value).ownBlock)) ?hr ?hp (fun _ hk => hk) ((show ∀ k_, w33.heap.size ≤ k_ → (fun k_ => (P1_ k_ ∨ w.heap.size ≤ k_) ∧ some k_ ≠ (.slice Ao31 y330.length co31 : Value).ownBlock ∧ some k_ ≠ (v334 : Value).ownBlock ∧ some k_ ≠ (v337 : Value).ownBlock) k_ from fun k_ hk => ⟨(.inr (Nat.le_trans (below_size (by repeat (with_reducible first | exact HB.out | apply bA | apply bN | apply bD))) hk)), Kd.fresh' (Kd.N_lt (by (with_reducible repeat (first | apply nA | apply nN | apply nD)); exact HO332.out)) k_ hk, Kd.fresh' (Kd.N_lt (by (with_reducible repeat (first | apply nA | apply nN | apply nD)); exact HO335.out)) k_ hk, Kd.fresh' (Kd.N_lt (by (with_reducible repeat (first | apply nA | apply nN | apply nD)); exact HO338.out)) k_ hk⟩) _ (Nat.le_refl _)) (Below.refl _ _) (Nat.le_refl _) (by simp) ?_; (case hd => rfl); (case hg => rfl); (case hr => first | (go_simp; done) | (go_simp; rfl)); (case hp => exact (Reps.one (show Kd.FK (Kd.slice 5 (Kd.int .u8)) _ _ (rd_L9 l1 (ji8)) [.slice A345_0 (rd_L9 l1 (ji8)).length c345_0] from (Kd.FK_slice_mk (Kd.V_reads' (Kd.V_mono (ok' := (fun k_ => (P1_ k_ ∨ w.heap.size ≤ k_) ∧ some k_ ≠ (.slice Ao31 y330.length co31 : Value).ownBlock ∧ some k_ ≠ (v334 : Value).ownBlock ∧ some k_ ≠ (v337 : Value).ownBlock)) (HL345_0.out) (fun k_ hk => ⟨hk.1.1.1, ⟨hk.1.1.2, ⟨hk.1.2, hk.2⟩⟩⟩))).2.1 (Kd.V_F (Kd.V_mono (ok' := (fun k_ => (P1_ k_ ∨ w.heap.size ≤ k_) ∧ some k_ ≠ (.slice Ao31 y330.length co31 : Value).ownBlock ∧ some k_ ≠ (v334 : Value).ownBlock ∧ some k_ ≠ (v337 : Value).ownBlock)) (HL345_0.out) (fun k_ hk => ⟨hk.1.1.1, ⟨hk.1.1.2, ⟨hk.1.2, hk.2⟩⟩⟩))))) (Reps.none _ _)))
            intro v347 w34 ho35 hb hg_ hnew_
            have HS0_ := (hb.cell (World.block_lt_of_cell? _ _ (hHeld))).trans (hHeld)
            clear hg_ hnew_
            rw [← Ny346.out] at ho35
            have n0_ := am (Kd.V_elder' (by (with_reducible repeat (first | apply vA | apply vN | apply vD)); exact HO1.out) (Kd.N_base ho35) hb)
            have n1_ := am (Kd.V_elder' (by (with_reducible repeat (first | apply vA | apply vN | apply vD)); exact HO321.out) (Kd.N_base ho35) hb)
            have n2_ := am (Kd.V_elder' (by (with_reducible repeat (first | apply vA | apply vN | apply vD)); exact HO329.out) (Kd.N_base ho35) hb)
            have n3_ := am (Kd.N_elder' (by (with_reducible repeat (first | apply nA | apply nN | apply nD)); exact HO332.out) (Kd.N_base ho35) hb)
            have n4_ := am (Kd.N_elder' (by (with_reducible repeat (first | apply nA | apply nN | apply nD)); exact HO335.out) (Kd.N_base ho35) hb)
            have n5_ := am (Kd.N_elder' (by (with_reducible repeat (first | apply nA | apply nN | apply nD)); exact HO338.out) (Kd.N_base ho35) hb)
            have n6_ := am (Kd.V_elder' (by (with_reducible repeat (first | apply vA | apply vN | apply vD)); exact HL345_0.out) (Kd.N_base ho35) hb)
            have n7_ := am (Kd.N_lower ho35 (below_size (by repeat (with_reducible first | exact HB.out | apply bA | apply bN | apply bD))))
            have n8_ := am (Kd.C_below (by repeat (first | (with_reducible exact HR345_0.out) | (with_reducible refine Kd.C_alloc ?_ _) | (with_reducible refine Kd.C_drewN ?_ _) | (with_reducible refine Kd.C_drew ?_) | exact HR345_0.out)) hb)
            have n9_ := am (below_step (by repeat (with_reducible first | exact HB.out | apply bA | apply bN | apply bD)) hb)
            clear HO1
            clear HO321
            clear HO329
            clear HO332
            clear HO335
            clear HO338
            clear HL345_0
            clear HR345_0
            clear HB
            have HO1 := n0_
            have HO321 := n1_
            have HO329 := n2_
            have HO332 := n3_
            have HO335 := n4_
            have HO338 := n5_
            have HL345_0 := n6_
            have HO348 := n7_
            have HR345_0 := n8_
            have HB := n9_
            clear n0_ n1_ n2_ n3_ n4_ n5_ n6_ n7_ n8_ n9_
            clear hb ho35
            refine hK.out _ _ (HS0_) (fun hHeld => ?_)
            clear hK K
            refine norm_ (a' := ?_) ?_ ?_
            rotate_left
            ·show Act.put _ (some 49) _ = _
             simp only [Act.put, List.setIfInBounds_toArray, List.set_cons_zero, List.set_cons_succ, i64_w, i32_w]
             rfl
            refine one_ (i := 1) (N := some 42) #[true, true, true, false, true, true, true, true, true, false, false, false] rfl rfl (one_of HT_.out (by kernel_rfl)) (by decide) (fun K hK => ?_)
            refine Kd.N_lit_step (Kd.slice 5 (Kd.int .u8)) _ 22 ?hg (N' := 42) ?hd (xs := ([] : List (List Int))) (inner := []) (ok := (fun k_ => (P1_ k_ ∨ w.heap.size ≤ k_) ∧ some k_ ≠ (.slice Ao31 y330.length co31 : Value).ownBlock ∧ some k_ ≠ (v334 : Value).ownBlock ∧ some k_ ≠ (v337 : Value).ownBlock ∧ some k_ ≠ (v347 : Value).ownBlock)) (okp := (fun k_ => (P1_ k_ ∨ w.heap.size ≤ k_) ∧ some k_ ≠ (.slice Ao31 y330.length co31 : Value).ownBlock ∧ some k_ ≠ (v334 : Value).ownBlock ∧ some k_ ≠ (v337 : Value).ownBlock ∧ some k_ ≠ (v347 : Value).ownBlock)) ?hr ?hp (fun _ hk => hk) ((show ∀ k_, w34.heap.size ≤ k_ → (fun k_ => (P1_ k_ ∨ w.heap.size ≤ k_) ∧ some k_ ≠ (.slice Ao31 y330.length co31 : Value).ownBlock ∧ some k_ ≠ (v334 : Value).ownBlock ∧ some k_ ≠ (v337 : Value).ownBlock ∧ some k_ ≠ (v347 : Value).ownBlock) k_ from fun k_ hk => ⟨(.inr (Nat.le_trans (below_size (by repeat (with_reducible first | exact HB.out | apply bA | apply bN | apply bD))) hk)), Kd.fresh' (Kd.N_lt (by (with_reducible repeat (first | apply nA | apply nN | apply nD)); exact HO332.out)) k_ hk, Kd.fresh' (Kd.N_lt (by (with_reducible repeat (first | apply nA | apply nN | apply nD)); exact HO335.out)) k_ hk, Kd.fresh' (Kd.N_lt (by (with_reducible repeat (first | apply nA | apply nN | apply nD)); exact HO338.out)) k_ hk, Kd.fresh' (Kd.N_lt (by (with_reducible repeat (first | apply nA | apply nN | apply nD)); exact HO348.out)) k_ hk⟩) _ (Nat.le_refl _)) (Below.refl _ _) (Nat.le_refl _) (by simp) ?_; (case hd => rfl); (case hg => rfl); (case hr => first | (go_simp; done) | (go_simp; rfl)); (case hp => exact (Reps.none _ _))
            intro v340 w36 ho37 hb hg_ hnew_
            have HS0_ := (hb.cell (World.block_lt_of_cell? _ _ (hHeld))).trans (hHeld)
            clear hg_ hnew_
            rw [← Ny339.out] at ho37
            have n0_ := am (Kd.V_elder' (by (with_reducible repeat (first | apply vA | apply vN | apply vD)); exact HO1.out) (Kd.N_base ho37) hb)
            have n1_ := am (Kd.V_elder' (by (with_reducible repeat (first | apply vA | apply vN | apply vD)); exact HO321.out) (Kd.N_base ho37) hb)
            have n2_ := am (Kd.V_elder' (by (with_reducible repeat (first | apply vA | apply vN | apply vD)); exact HO329.out) (Kd.N_base ho37) hb)
            have n3_ := am (Kd.N_elder' (by (with_reducible repeat (first | apply nA | apply nN | apply nD)); exact HO332.out) (Kd.N_base ho37) hb)
            have n4_ := am (Kd.N_elder' (by (with_reducible repeat (first | apply nA | apply nN | apply nD)); exact HO335.out) (Kd.N_base ho37) hb)
            have n5_ := am (Kd.N_elder' (by (with_reducible repeat (first | apply nA | apply nN | apply nD)); exact HO338.out) (Kd.N_base ho37) hb)
            have n6_ := am (Kd.V_elder' (by (with_reducible repeat (first | apply vA | apply vN | apply vD)); exact HL345_0.out) (Kd.N_base ho37) hb)
            have n7_ := am (Kd.N_elder' (by (with_reducible repeat (first | apply nA | apply nN | apply nD)); exact HO348.out) (Kd.N_base ho37) hb)
            have n8_ := am (Kd.N_lower ho37 (below_size (by repeat (with_reducible first | exact HB.out | apply bA | apply bN | apply bD))))
            have n9_ := am (Kd.C_below (by repeat (first | (with_reducible exact HR345_0.out) | (with_reducible refine Kd.C_alloc ?_ _) | (with_reducible refine Kd.C_drewN ?_ _) | (with_reducible refine Kd.C_drew ?_) | exact HR345_0.out)) hb)
            have n10_ := am (below_step (by repeat (with_reducible first | exact HB.out | apply bA | apply bN | apply bD)) hb)
            clear HO1
            clear HO321
            clear HO329
            clear HO332
            clear HO335
            clear HO338
            clear HL345_0
            clear HO348
            clear HR345_0
            clear HB
            have HO1 := n0_
            have HO321 := n1_
            have HO329 := n2_
            have HO332 := n3_
            have HO335 := n4_
            have HO338 := n5_
            have HL345_0 := n6_
            have HO348 := n7_
            have HO341 := n8_
            have HR345_0 := n9_
            have HB := n10_
            clear n0_ n1_ n2_ n3_ n4_ n5_ n6_ n7_ n8_ n9_ n10_
            clear hb ho37
            refine hK.out _ _ (HS0_) (fun hHeld => ?_)
            clear hK K
            refine norm_ (a' := ?_) ?_ ?_
            rotate_left
            ·show Act.put _ (some 42) _ = _
             simp only [Act.put, List.setIfInBounds_toArray, List.set_cons_zero, List.set_cons_succ, i64_w, i32_w]
             rfl
            refine one_ (i := 3) (N := some 44) #[true, true, true, true, true, true, true, true, true, false, false, false] rfl rfl (one_of HT_.out (by kernel_rfl)) (by decide) (fun K hK => ?_)
            refine Kd.N_append_rows_step (Kd.slice 5 (Kd.int .u8)) (w0 := w) w.heap.size (by rfl) (.tmp 42) (.tmp 43) 23 22 (.slice none 0 0) 24 rfl Try.underlying23 info22 rfl (by decide) (by omega) v340 y339 l1 _ _ _ (fun k_ => (P1_ k_ ∨ w.heap.size ≤ k_) ∧ some k_ ≠ (.slice Ao31 y330.length co31 : Value).ownBlock ∧ some k_ ≠ (v334 : Value).ownBlock ∧ some k_ ≠ (v337 : Value).ownBlock ∧ some k_ ≠ (v347 : Value).ownBlock) (fun k_ => ((fun k_ => (P1_ k_ ∨ w.heap.size ≤ k_) ∧ some k_ ≠ (.slice Ao31 y330.length co31 : Value).ownBlock ∧ some k_ ≠ (v334 : Value).ownBlock ∧ some k_ ≠ (v337 : Value).ownBlock ∧ some k_ ≠ (v347 : Value).ownBlock)) k_ ∧ some k_ ≠ (v340 : Value).ownBlock) rfl rfl ?aO ?aR (fun _ hk => hk) ?aF ?aB ?aS ?aL ?_
            (case aR => exact (by skip; exact Kd.V_F (Kd.V_mono (ok' := (fun k_ => ((fun k_ => (P1_ k_ ∨ w.heap.size ≤ k_) ∧ some k_ ≠ (.slice Ao31 y330.length co31 : Value).ownBlock ∧ some k_ ≠ (v334 : Value).ownBlock ∧ some k_ ≠ (v337 : Value).ownBlock ∧ some k_ ≠ (v347 : Value).ownBlock)) k_ ∧ some k_ ≠ (v340 : Value).ownBlock)) (HO1.out) (fun k_ hk => ⟨⟨hk.1.1.1.1.1, ⟨hk.1.1.1.1.2, ⟨hk.1.1.1.2, ⟨hk.1.1.2, hk.1.2⟩⟩⟩⟩, hk.2⟩))))
            (case aB => exact (by repeat (with_reducible first | exact HB.out | apply bA | apply bN | apply bD)))
            (case aF => exact (fun k_ hk => ⟨(.inr (Nat.le_trans (below_size (by repeat (with_reducible first | exact HB.out | apply bA | apply bN | apply bD))) hk)), Kd.fresh' (Kd.N_lt (by (with_reducible repeat (first | apply nA | apply nN | apply nD)); exact HO332.out)) k_ hk, Kd.fresh' (Kd.N_lt (by (with_reducible repeat (first | apply nA | apply nN | apply nD)); exact HO335.out)) k_ hk, Kd.fresh' (Kd.N_lt (by (with_reducible repeat (first | apply nA | apply nN | apply nD)); exact HO338.out)) k_ hk, Kd.fresh' (Kd.N_lt (by (with_reducible repeat (first | apply nA | apply nN | apply nD)); exact HO348.out)) k_ hk⟩))
            (case aO => exact (by (with_reducible repeat (first | apply nA | apply nN | apply nD)); exact HO341.out))
            (case aS => exact (below_size (by repeat (with_reducible first | exact HB.out | apply bA | apply bN | apply bD))))
            (case aL => have := LMc17.out; omega)
            intro v343 w38 ho hb hg hat
            have HS0_ := cell_grown hg (hHeld) (fun e_ => by obtain ⟨ad_, A_, c_, ee_, hx_, _, _⟩ := at_L9 (Kd.V_reads' hs1).2.2 _ (of_eq_true p345) (of_eq_true q345); cases ee_; exact absurd (World.block_lt_of_cell? _ _ hx_) (Nat.not_lt.mpr (Kd.N_base HO341.out _ e_.symm)))
            rw [← Ny342.out] at ho
            have n0_ := am (Kd.V_afterv (ok := (fun k_ => (P1_ k_ ∨ w.heap.size ≤ k_) ∧ some k_ ≠ (.slice Ao31 y330.length co31 : Value).ownBlock ∧ some k_ ≠ (v334 : Value).ownBlock ∧ some k_ ≠ (v337 : Value).ownBlock ∧ some k_ ≠ (v347 : Value).ownBlock)) (by (with_reducible repeat (first | apply vA | apply vN | apply vD)); exact Kd.V_mono HO1.out (fun _ hk => ⟨⟨hk.1.1.1.1.1, ⟨hk.1.1.1.1.2, ⟨hk.1.1.1.2, ⟨hk.1.1.2, hk.1.2⟩⟩⟩⟩, hk.2⟩)) hg hat)
            have n1_ := am (Kd.V_afterv (ok := (fun k_ => (P1_ k_ ∨ w.heap.size ≤ k_) ∧ some k_ ≠ (.slice Ao31 y330.length co31 : Value).ownBlock ∧ some k_ ≠ (v334 : Value).ownBlock ∧ some k_ ≠ (v337 : Value).ownBlock ∧ some k_ ≠ (v347 : Value).ownBlock)) (by (with_reducible repeat (first | apply vA | apply vN | apply vD)); exact Kd.V_mono HO321.out (fun _ hk => ⟨⟨hk.1.1.1.1.1, ⟨hk.1.1.1.1.2, ⟨hk.1.1.1.2, ⟨hk.1.1.2, hk.1.2⟩⟩⟩⟩, hk.2⟩)) hg hat)
            have n2_ := am (Kd.V_afterv (ok := (fun k_ => (P1_ k_ ∨ w.heap.size ≤ k_) ∧ some k_ ≠ (.slice Ao31 y330.length co31 : Value).ownBlock ∧ some k_ ≠ (v334 : Value).ownBlock ∧ some k_ ≠ (v337 : Value).ownBlock ∧ some k_ ≠ (v347 : Value).ownBlock)) (by (with_reducible repeat (first | apply vA | apply vN | apply vD)); exact Kd.V_mono HO329.out (fun _ hk => ⟨⟨hk.1.1.1.1.1, ⟨hk.1.1.1.1.2, ⟨hk.1.1.1.2, ⟨hk.1.1.2, hk.1.2⟩⟩⟩⟩, hk.2⟩)) hg hat)
            have n3_ := am (Kd.N_afterv (ok := (fun k_ => (P1_ k_ ∨ w.heap.size ≤ k_) ∧ some k_ ≠ (v334 : Value).ownBlock ∧ some k_ ≠ (v337 : Value).ownBlock ∧ some k_ ≠ (v347 : Value).ownBlock)) (by (with_reducible repeat (first | apply nA | apply nN | apply nD)); exact Kd.N_mono HO332.out (fun _ hk => ⟨⟨hk.1.1.1.1, ⟨hk.1.1.1.2, ⟨hk.1.1.2, hk.1.2⟩⟩⟩, hk.2⟩)) hg hat)
            have n4_ := am (Kd.N_afterv (ok := (fun k_ => (P1_ k_ ∨ w.heap.size ≤ k_) ∧ some k_ ≠ (.slice Ao31 y330.length co31 : Value).ownBlock ∧ some k_ ≠ (v337 : Value).ownBlock ∧ some k_ ≠ (v347 : Value).ownBlock)) (by (with_reducible repeat (first | apply nA | apply nN | apply nD)); exact Kd.N_mono HO335.out (fun _ hk => ⟨⟨hk.1.1.1.1, ⟨hk.1.1.1.2, ⟨hk.1.1.2, hk.1.2⟩⟩⟩, hk.2⟩)) hg hat)
            have n5_ := am (Kd.N_afterv (ok := (fun k_ => (P1_ k_ ∨ w.heap.size ≤ k_) ∧ some k_ ≠ (.slice Ao31 y330.length co31 : Value).ownBlock ∧ some k_ ≠ (v334 : Value).ownBlock ∧ some k_ ≠ (v347 : Value).ownBlock)) (by (with_reducible repeat (first | apply nA | apply nN | apply nD)); exact Kd.N_mono HO338.out (fun _ hk => ⟨⟨hk.1.1.1, ⟨hk.1.1.2.1, ⟨hk.1.1.2.2, hk.1.2⟩⟩⟩, hk.2⟩)) hg hat)
            have n6_ := am (Kd.V_afterv (ok := (fun k_ => (P1_ k_ ∨ w.heap.size ≤ k_) ∧ some k_ ≠ (.slice Ao31 y330.length co31 : Value).ownBlock ∧ some k_ ≠ (v334 : Value).ownBlock ∧ some k_ ≠ (v337 : Value).ownBlock ∧ some k_ ≠ (v347 : Value).ownBlock)) (by (with_reducible repeat (first | apply vA | apply vN | apply vD)); exact Kd.V_mono HL345_0.out (fun _ hk => ⟨⟨hk.1.1.1.1.1, ⟨hk.1.1.1.1.2, ⟨hk.1.1.1.2, ⟨hk.1.1.2, hk.1.2⟩⟩⟩⟩, hk.2⟩)) hg hat)
            have n7_ := am (Kd.N_afterv (ok := (fun k_ => (P1_ k_ ∨ w.heap.size ≤ k_) ∧ some k_ ≠ (.slice Ao31 y330.length co31 : Value).ownBlock ∧ some k_ ≠ (v334 : Value).ownBlock ∧ some k_ ≠ (v337 : Value).ownBlock)) (by (with_reducible repeat (first | apply nA | apply nN | apply nD)); exact HO348.out) hg hat)
            have n8_ := am (hb)
            have n9_ := am (ho)
            clear HO1
            clear HO321
            clear HO329
            clear HO332
            clear HO335
            clear HO338
            clear HL345_0
            clear HO348
            clear HB
            clear HO341
            have HO1 := n0_
            have HO321 := n1_
            have HO329 := n2_
            have HO332 := n3_
            have HO335 := n4_
            have HO338 := n5_
            have HL345_0 := n6_
            have HO348 := n7_
            have HB := n8_
            have HO344 := n9_
            clear n0_ n1_ n2_ n3_ n4_ n5_ n6_ n7_ n8_ n9_
            clear ho hb hg hat
            refine hK.out _ _ (HS0_) (fun hHeld => ?_)
            clear hK K
            refine norm_ (a' := ?_) ?_ ?_
            rotate_left
            ·show Act.put _ (some 44) _ = _
             simp only [Act.put, List.setIfInBounds_toArray, List.set_cons_zero, List.set_cons_succ, i64_w, i32_w]
             rfl
            exact norm_ (by simp only [putAll, Act.put, List.setIfInBounds_toArray, List.set_cons_zero, List.set_cons_succ]) (hCont (v340, v343, v347) _ ⟨hHeld, (by (with_reducible repeat (first | apply vA | apply vN | apply vD)); exact Kd.V_mono HL345_0.out (fun _ hk => ⟨hk.1.1, ⟨hk.1.2.1, ⟨hk.1.2.2.1, ⟨hk.1.2.2.2.1, ⟨hk.2, hk.1.2.2.2.2⟩⟩⟩⟩⟩)), (by (with_reducible repeat (first | apply vA | apply vN | apply vD)); exact Kd.V_mono HO1.out (fun _ hk => ⟨hk.1.1, ⟨hk.1.2.1, ⟨hk.1.2.2.1, ⟨hk.1.2.2.2.1, ⟨hk.2, hk.1.2.2.2.2⟩⟩⟩⟩⟩)), (by (with_reducible repeat (first | apply vA | apply vN | apply vD)); exact Kd.V_mono HO321.out (fun _ hk => ⟨hk.1.1, ⟨hk.1.2.1, ⟨hk.1.2.2.1, ⟨hk.1.2.2.2.1, ⟨hk.2, hk.1.2.2.2.2⟩⟩⟩⟩⟩)), (by (with_reducible repeat (first | apply vA | apply vN | apply vD)); exact Kd.V_mono HO329.out (fun _ hk => ⟨hk.1.1, ⟨hk.1.2.1, ⟨hk.1.2.2.1, ⟨hk.1.2.2.2.1, ⟨hk.2, hk.1.2.2.2.2⟩⟩⟩⟩⟩)), (by (with_reducible repeat (first | apply nA | apply nN | apply nD)); exact Kd.N_mono HO332.out (fun _ hk => ⟨hk.1.1, ⟨hk.1.2.1, ⟨hk.1.2.2.1, ⟨hk.2, hk.1.2.2.2⟩⟩⟩⟩)), (by (with_reducible repeat (first | apply nA | apply nN | apply nD)); exact Kd.N_mono HO335.out (fun _ hk => ⟨hk.1.1, ⟨hk.1.2.1, ⟨hk.1.2.2.1, ⟨hk.2, hk.1.2.2.2⟩⟩⟩⟩)), (by (with_reducible repeat (first | apply nA | apply nN | apply nD)); exact Kd.N_mono HO338.out (fun _ hk => ⟨hk.1.1, ⟨hk.1.2.1, ⟨hk.1.2.2.1, ⟨hk.2, hk.1.2.2.2⟩⟩⟩⟩)), (by (with_reducible repeat (first | apply nA | apply nN | apply nD)); exact HO344.out), (by (with_reducible repeat (first | apply nA | apply nN | apply nD)); exact Kd.N_mono HO348.out (fun _ hk => ⟨hk.1.1, ⟨hk.1.2.1, ⟨hk.1.2.2.1, ⟨hk.1.2.2.2, hk.2⟩⟩⟩⟩)), (by repeat (with_reducible first | exact HB.out | apply bA | apply bN | apply bD))⟩)
          rintro ⟨v340, v343, v347⟩ w39 ⟨hS_, h0_, h1_, h2_, h3_, h4_, h5_, h6_, h7_, h8_, h9_⟩
          have n0_ : Aside0 (Kd.V (Kd.int .u8) 5 w39 w.heap.size (fun k_ => (P1_ k_ ∨ w.heap.size ≤ k_) ∧ some k_ ≠ (.slice Ao31 y330.length co31 : Value).ownBlock ∧ some k_ ≠ (v334 : Value).ownBlock ∧ some k_ ≠ (v337 : Value).ownBlock ∧ some k_ ≠ (v343 : Value).ownBlock ∧ some k_ ≠ (v347 : Value).ownBlock) (.slice A345_0 (rd_L9 l1 (ji8)).length c345_0) (rd_L9 l1 (ji8))) := ⟨h0_⟩
          have n1_ : Aside0 (Kd.V (Kd.slice 5 (Kd.int .u8)) 22 w39 w.heap.size (fun k_ => (P1_ k_ ∨ w.heap.size ≤ k_) ∧ some k_ ≠ (.slice Ao31 y330.length co31 : Value).ownBlock ∧ some k_ ≠ (v334 : Value).ownBlock ∧ some k_ ≠ (v337 : Value).ownBlock ∧ some k_ ≠ (v343 : Value).ownBlock ∧ some k_ ≠ (v347 : Value).ownBlock) (.slice (some ad345) l1.length c1) l1) := ⟨h1_⟩
          have n2_ : Aside0 (Kd.V (Kd.slice 5 (Kd.int .u8)) 22 w39 w.heap.size (fun k_ => (P1_ k_ ∨ w.heap.size ≤ k_) ∧ some k_ ≠ (.slice Ao31 y330.length co31 : Value).ownBlock ∧ some k_ ≠ (v334 : Value).ownBlock ∧ some k_ ≠ (v337 : Value).ownBlock ∧ some k_ ≠ (v343 : Value).ownBlock ∧ some k_ ≠ (v347 : Value).ownBlock) (.slice A24 y317.length c24) y317) := ⟨h2_⟩
          have n3_ : Aside0 (Kd.V (Kd.slice 5 (Kd.int .u8)) 22 w39 w.heap.size (fun k_ => (P1_ k_ ∨ w.heap.size ≤ k_) ∧ some k_ ≠ (.slice Ao31 y330.length co31 : Value).ownBlock ∧ some k_ ≠ (v334 : Value).ownBlock ∧ some k_ ≠ (v337 : Value).ownBlock ∧ some k_ ≠ (v343 : Value).ownBlock ∧ some k_ ≠ (v347 : Value).ownBlock) (.slice (some ad345) y325.length c1) y325) := ⟨h3_⟩
          have n4_ : Aside0 (Kd.N (Kd.slice 5 (Kd.int .u8)) 22 w39 w.heap.size (fun k_ => (P1_ k_ ∨ w.heap.size ≤ k_) ∧ some k_ ≠ (v334 : Value).ownBlock ∧ some k_ ≠ (v337 : Value).ownBlock ∧ some k_ ≠ (v343 : Value).ownBlock ∧ some k_ ≠ (v347 : Value).ownBlock) (.slice Ao31 y330.length co31) y330) := ⟨h4_⟩
          have n5_ : Aside0 (Kd.N k39 39 w39 w.heap.size (fun k_ => (P1_ k_ ∨ w.heap.size ≤ k_) ∧ some k_ ≠ (.slice Ao31 y330.length co31 : Value).ownBlock ∧ some k_ ≠ (v337 : Value).ownBlock ∧ some k_ ≠ (v343 : Value).ownBlock ∧ some k_ ≠ (v347 : Value).ownBlock) v334 t333) := ⟨h5_⟩
          have n6_ : Aside0 (Kd.N k39 39 w39 w.heap.size (fun k_ => (P1_ k_ ∨ w.heap.size ≤ k_) ∧ some k_ ≠ (.slice Ao31 y330.length co31 : Value).ownBlock ∧ some k_ ≠ (v334 : Value).ownBlock ∧ some k_ ≠ (v343 : Value).ownBlock ∧ some k_ ≠ (v347 : Value).ownBlock) v337 t336) := ⟨h6_⟩
          have n7_ : Aside0 (Kd.N (Kd.slice 5 (Kd.int .u8)) 22 w39 w.heap.size (fun k_ => (P1_ k_ ∨ w.heap.size ≤ k_) ∧ some k_ ≠ (.slice Ao31 y330.length co31 : Value).ownBlock ∧ some k_ ≠ (v334 : Value).ownBlock ∧ some k_ ≠ (v337 : Value).ownBlock ∧ some k_ ≠ (v347 : Value).ownBlock) v343 y342) := ⟨h7_⟩
          have n8_ : Aside0 (Kd.N (Kd.slice 5 (Kd.int .u8)) 22 w39 w.heap.size (fun k_ => (P1_ k_ ∨ w.heap.size ≤ k_) ∧ some k_ ≠ (.slice Ao31 y330.length co31 : Value).ownBlock ∧ some k_ ≠ (v334 : Value).ownBlock ∧ some k_ ≠ (v337 : Value).ownBlock ∧ some k_ ≠ (v343 : Value).ownBlock) v347 y346) := ⟨h8_⟩
          have n9_ : Aside0 (Below w.heap.size w w39) := ⟨h9_⟩
          clear HO1
          clear HO321
          clear HO329
          clear HO332
          clear HO335
          clear HO338
          clear HB
          clear h0_ h1_ h2_ h3_ h4_ h5_ h6_ h7_ h8_ h9_
          have HL345_0 := n0_
          have HO1 := n1_
          have HO321 := n2_
          have HO329 := n3_
          have HO332 := n4_
          have HO335 := n5_
          have HO338 := n6_
          have HO344 := n7_
          have HO348 := n8_
          have HB := n9_
          clear n0_ n1_ n2_ n3_ n4_ n5_ n6_ n7_ n8_ n9_
          have hHeld : w39.cell? (ad345.add ((ji8)).toNat) = some (.slice A345_0 (rd_L9 l1 (ji8)).length c345_0) := hS_
          obtain ⟨Ao41, co41, eo41⟩ := Kd.N_slice HO348.out
          (first | subst eo41 | (injection eo41 with f1_ f2_ f3_; have f4_ := f1_.symm; have f5_ := f3_.symm; clear f1_ f2_ f3_; subst f4_; subst f5_))
          refine norm_ (a' := ?_) ?_ ?_
          rotate_left
          ·simp only [putAll, Act.put, List.setIfInBounds_toArray, List.set_cons_zero, List.set_cons_succ]
           rfl
          refine one_ (i := 9) (N := some 50) #[true, true, true, true, true, true, true, true, true, true, false, false] rfl rfl (one_of HT_.out (by kernel_rfl)) (by decide) (fun K hK => ?_)
          refine Kd.N_append_rows_step (Kd.slice 5 (Kd.int .u8)) (w0 := w) w.heap.size (by rfl) (.tmp 44) (.tmp 49) 23 22 (.slice none 0 0) 24 rfl Try.underlying23 info22 rfl (by decide) (by omega) v343 y342 y346 _ _ _ (fun k_ => (P1_ k_ ∨ w.heap.size ≤ k_) ∧ some k_ ≠ (.slice Ao31 y330.length co31 : Value).ownBlock ∧ some k_ ≠ (v334 : Value).ownBlock ∧ some k_ ≠ (v337 : Value).ownBlock) (fun k_ => ((fun k_ => (P1_ k_ ∨ w.heap.size ≤ k_) ∧ some k_ ≠ (.slice Ao31 y330.length co31 : Value).ownBlock ∧ some k_ ≠ (v334 : Value).ownBlock ∧ some k_ ≠ (v337 : Value).ownBlock)) k_ ∧ some k_ ≠ (v343 : Value).ownBlock) rfl rfl ?aO ?aR (fun _ hk => hk) ?aF ?aB ?aS ?aL ?_
          (case aR => exact (by skip; exact Kd.N_F (Kd.N_mono (ok' := (fun k_ => ((fun k_ => (P1_ k_ ∨ w.heap.size ≤ k_) ∧ some k_ ≠ (.slice Ao31 y330.length co31 : Value).ownBlock ∧ some k_ ≠ (v334 : Value).ownBlock ∧ some k_ ≠ (v337 : Value).ownBlock)) k_ ∧ some k_ ≠ (v343 : Value).ownBlock)) (HO348.out) (fun k_ hk => ⟨⟨hk.1, ⟨hk.2.1, ⟨hk.2.2.1, hk.2.2.2.1⟩⟩⟩, hk.2.2.2.2⟩))))
          (case aB => exact (by repeat (with_reducible first | exact HB.out | apply bA | apply bN | apply bD)))
          (case aF => exact (fun k_ hk => ⟨(.inr (Nat.le_trans (below_size (by repeat (with_reducible first | exact HB.out | apply bA | apply bN | apply bD))) hk)), Kd.fresh' (Kd.N_lt (by (with_reducible repeat (first | apply nA | apply nN | apply nD)); exact HO332.out)) k_ hk, Kd.fresh' (Kd.N_lt (by (with_reducible repeat (first | apply nA | apply nN | apply nD)); exact HO335.out)) k_ hk, Kd.fresh' (Kd.N_lt (by (with_reducible repeat (first | apply nA | apply nN | apply nD)); exact HO338.out)) k_ hk⟩))
          (case aO => exact (by (with_reducible repeat (first | apply nA | apply nN | apply nD)); exact Kd.N_mono HO344.out (fun _ hk => ⟨hk.1, ⟨hk.2.1, ⟨hk.2.2.1, hk.2.2.2.1⟩⟩⟩)))
          (case aS => exact (below_size (by repeat (with_reducible first | exact HB.out | apply bA | apply bN | apply bD))))
          (case aL => have := LMc19.out; omega)
          intro v350 w40 ho hb hg hat
          have HS0_ := cell_grown hg (hHeld) (fun e_ => by obtain ⟨ad_, A_, c_, ee_, hx_, _, _⟩ := at_L9 (Kd.V_reads' hs1).2.2 _ (of_eq_true p345) (of_eq_true q345); cases ee_; exact absurd (World.block_lt_of_cell? _ _ hx_) (Nat.not_lt.mpr (Kd.N_base HO344.out _ e_.symm)))
          rw [← Ny349.out] at ho
          have n0_ := am (Kd.V_afterv (ok := (fun k_ => (P1_ k_ ∨ w.heap.size ≤ k_) ∧ some k_ ≠ (.slice Ao31 y330.length co31 : Value).ownBlock ∧ some k_ ≠ (v334 : Value).ownBlock ∧ some k_ ≠ (v337 : Value).ownBlock ∧ some k_ ≠ (.slice Ao41 y346.length co41 : Value).ownBlock)) (by (with_reducible repeat (first | apply vA | apply vN | apply vD)); exact Kd.V_mono HO1.out (fun _ hk => ⟨⟨hk.1, ⟨hk.2.1, ⟨hk.2.2.1, ⟨hk.2.2.2.1, hk.2.2.2.2.2⟩⟩⟩⟩, hk.2.2.2.2.1⟩)) hg hat)
          have n1_ := am (Kd.V_afterv (ok := (fun k_ => (P1_ k_ ∨ w.heap.size ≤ k_) ∧ some k_ ≠ (.slice Ao31 y330.length co31 : Value).ownBlock ∧ some k_ ≠ (v334 : Value).ownBlock ∧ some k_ ≠ (v337 : Value).ownBlock ∧ some k_ ≠ (.slice Ao41 y346.length co41 : Value).ownBlock)) (by (with_reducible repeat (first | apply vA | apply vN | apply vD)); exact Kd.V_mono HO321.out (fun _ hk => ⟨⟨hk.1, ⟨hk.2.1, ⟨hk.2.2.1, ⟨hk.2.2.2.1, hk.2.2.2.2.2⟩⟩⟩⟩, hk.2.2.2.2.1⟩)) hg hat)
          have n2_ := am (Kd.V_afterv (ok := (fun k_ => (P1_ k_ ∨ w.heap.size ≤ k_) ∧ some k_ ≠ (.slice Ao31 y330.length co31 : Value).ownBlock ∧ some k_ ≠ (v334 : Value).ownBlock ∧ some k_ ≠ (v337 : Value).ownBlock ∧ some k_ ≠ (.slice Ao41 y346.length co41 : Value).ownBlock)) (by (with_reducible repeat (first | apply vA | apply vN | apply vD)); exact Kd.V_mono HO329.out (fun _ hk => ⟨⟨hk.1, ⟨hk.2.1, ⟨hk.2.2.1, ⟨hk.2.2.2.1, hk.2.2.2.2.2⟩⟩⟩⟩, hk.2.2.2.2.1⟩)) hg hat)
          have n3_ := am (Kd.N_afterv (ok := (fun k_ => (P1_ k_ ∨ w.heap.size ≤ k_) ∧ some k_ ≠ (v334 : Value).ownBlock ∧ some k_ ≠ (v337 : Value).ownBlock ∧ some k_ ≠ (.slice Ao41 y346.length co41 : Value).ownBlock)) (by (with_reducible repeat (first | apply nA | apply nN | apply nD)); exact Kd.N_mono HO332.out (fun _ hk => ⟨⟨hk.1, ⟨hk.2.1, ⟨hk.2.2.1, hk.2.2.2.2⟩⟩⟩, hk.2.2.2.1⟩)) hg hat)
          have n4_ := am (Kd.N_afterv (ok := (fun k_ => (P1_ k_ ∨ w.heap.size ≤ k_) ∧ some k_ ≠ (.slice Ao31 y330.length co31 : Value).ownBlock ∧ some k_ ≠ (v337 : Value).ownBlock ∧ some k_ ≠ (.slice Ao41 y346.length co41 : Value).ownBlock)) (by (with_reducible repeat (first | apply nA | apply nN | apply nD)); exact Kd.N_mono HO335.out (fun _ hk => ⟨⟨hk.1, ⟨hk.2.1, ⟨hk.2.2.1, hk.2.2.2.2⟩⟩⟩, hk.2.2.2.1⟩)) hg hat)
          have n5_ := am (Kd.N_afterv (ok := (fun k_ => (P1_ k_ ∨ w.heap.size ≤ k_) ∧ some k_ ≠ (.slice Ao31 y330.length co31 : Value).ownBlock ∧ some k_ ≠ (v334 : Value).ownBlock ∧ some k_ ≠ (.slice Ao41 y346.length co41 : Value).ownBlock)) (by (with_reducible repeat (first | apply nA | apply nN | apply nD)); exact Kd.N_mono HO338.out (fun _ hk => ⟨⟨hk.1, ⟨hk.2.1, ⟨hk.2.2.1, hk.2.2.2.2⟩⟩⟩, hk.2.2.2.1⟩)) hg hat)
          have n6_ := am (Kd.V_afterv (ok := (fun k_ => (P1_ k_ ∨ w.heap.size ≤ k_) ∧ some k_ ≠ (.slice Ao31 y330.length co31 : Value).ownBlock ∧ some k_ ≠ (v334 : Value).ownBlock ∧ some k_ ≠ (v337 : Value).ownBlock ∧ some k_ ≠ (.slice Ao41 y346.length co41 : Value).ownBlock)) (by (with_reducible repeat (first | apply vA | apply vN | apply vD)); exact Kd.V_mono HL345_0.out (fun _ hk => ⟨⟨hk.1, ⟨hk.2.1, ⟨hk.2.2.1, ⟨hk.2.2.2.1, hk.2.2.2.2.2⟩⟩⟩⟩, hk.2.2.2.2.1⟩)) hg hat)
          have n7_ := am (Kd.N_afterv (ok := (fun k_ => (P1_ k_ ∨ w.heap.size ≤ k_) ∧ some k_ ≠ (.slice Ao31 y330.length co31 : Value).ownBlock ∧ some k_ ≠ (v334 : Value).ownBlock ∧ some k_ ≠ (v337 : Value).ownBlock)) (by (with_reducible repeat (first | apply nA | apply nN | apply nD)); exact Kd.N_mono HO348.out (fun _ hk => ⟨⟨hk.1, ⟨hk.2.1, ⟨hk.2.2.1, hk.2.2.2.1⟩⟩⟩, hk.2.2.2.2⟩)) hg hat)
          have n8_ := am (hb)
          have n9_ := am (ho)
          clear HO1
          clear HO321
          clear HO329
          clear HO332
          clear HO335
          clear HO338
          clear HL345_0
          clear HO348
          clear HB
          clear HO344
          have HO1 := n0_
          have HO321 := n1_
          have HO329 := n2_
          have HO332 := n3_
          have HO335 := n4_
          have HO338 := n5_
          have HL345_0 := n6_
          have HO348 := n7_
          have HB := n8_
          have HO351 := n9_
          clear n0_ n1_ n2_ n3_ n4_ n5_ n6_ n7_ n8_ n9_
          clear ho hb hg hat
          obtain ⟨Ao42, co42, eo42⟩ := Kd.N_slice HO351.out
          (first | subst eo42 | (injection eo42 with f1_ f2_ f3_; have f4_ := f1_.symm; have f5_ := f3_.symm; clear f1_ f2_ f3_; subst f4_; subst f5_))
          refine hK.out _ _ (HS0_) (fun hHeld => ?_)
          clear hK K
          refine norm_ (a' := ?_) ?_ ?_
          rotate_left
          ·show Act.put _ (some 50) _ = _
           simp only [Act.put, List.setIfInBounds_toArray, List.set_cons_zero, List.set_cons_succ, i64_w, i32_w]
           rfl
          refine one_ (i := 10) (N := some 51) #[true, true, true, true, true, true, true, true, true, true, true, false] rfl rfl (one_of HT_.out (by kernel_rfl)) (by decide) (fun K hK => ?_)
          refine goes_ Try.func19 (by kernel_rfl) rfl #[.slice A0 l0.length c0, .slice Ao42 y349.length co42] (by rfl) rfl rfl (by (try simp only [List.map_toArray, List.map_cons, List.map_nil]); first | done | rfl | (simp only [List.length_drop, List.length_take]; rfl)) ?_
          with_reducible refine (sennitlaw05_cut.calls k _ _ l0 _ _ y349 t352 _ ?side1 ?side2 ?side3 ?side4 A20.out).mono ?_
          (case side1 => repeat (first | exact (Kd.C_below HR0.out HB.out) | (with_reducible refine Kd.C_alloc ?_ _) | (with_reducible refine Kd.C_drewN ?_ _) | (with_reducible refine Kd.C_drew ?_)))
          (case side2 => exact HC0.out)
          (case side3 => repeat (first | exact (Kd.N_reads' HO351.out).2.2 | (with_reducible refine Kd.C_alloc ?_ _) | (with_reducible refine Kd.C_drewN ?_ _) | (with_reducible refine Kd.C_drew ?_)))
          (case side4 => exact (Kd.N_reads' HO351.out).2.1)
          rintro e w43 ⟨v353, rfl, ho0, hb⟩
          have HS0_ := (hb.cell (World.block_lt_of_cell? _ _ (hHeld))).trans (hHeld)
          refine ⟨_, rfl, ?_⟩
          have n0_ := am (Kd.V_elder' (by (with_reducible repeat (first | apply vA | apply vN | apply vD)); exact HO1.out) (Kd.S_base ho0) hb)
          have n1_ := am (Kd.V_elder' (by (with_reducible repeat (first | apply vA | apply vN | apply vD)); exact HO321.out) (Kd.S_base ho0) hb)
          have n2_ := am (Kd.V_elder' (by (with_reducible repeat (first | apply vA | apply vN | apply vD)); exact HO329.out) (Kd.S_base ho0) hb)
          have n3_ := am (Kd.N_elder' (by (with_reducible repeat (first | apply nA | apply nN | apply nD)); exact HO332.out) (Kd.S_base ho0) hb)
          have n4_ := am (Kd.N_elder' (by (with_reducible repeat (first | apply nA | apply nN | apply nD)); exact HO335.out) (Kd.S_base ho0) hb)
          have n5_ := am (Kd.N_elder' (by (with_reducible repeat (first | apply nA | apply nN | apply nD)); exact HO338.out) (Kd.S_base ho0) hb)
          have n6_ := am (Kd.V_elder' (by (with_reducible repeat (first | apply vA | apply vN | apply vD)); exact HL345_0.out) (Kd.S_base ho0) hb)
          have n7_ := am (Kd.N_elder' (by (with_reducible repeat (first | apply nA | apply nN | apply nD)); exact HO348.out) (Kd.S_base ho0) hb)
          have n8_ := am (Kd.N_elder' (by (with_reducible repeat (first | apply nA | apply nN | apply nD)); exact HO351.out) (Kd.S_base ho0) hb)
          have n9_ := am (Kd.N_lower (Kd.N_mono (ok' := fun k_ => (P1_ k_ ∨ w.heap.size ≤ k_) ∧ some k_ ≠ (.slice Ao31 y330.length co31 : Value).ownBlock ∧ some k_ ≠ (v334 : Value).ownBlock ∧ some k_ ≠ (v337 : Value).ownBlock ∧ some k_ ≠ (.slice Ao41 y346.length co41 : Value).ownBlock ∧ some k_ ≠ (.slice Ao42 y349.length co42 : Value).ownBlock) (Kd.S_N (Kd.S_bound ho0)) (fun k_ hk_ => ⟨(.inr (Nat.le_trans (below_size (by repeat (with_reducible first | exact HB.out | apply bA | apply bN | apply bD))) hk_.2.1)), (Kd.fresh' (Kd.N_lt (by (with_reducible repeat (first | apply nA | apply nN | apply nD)); exact HO332.out)) k_ hk_.2.1), (Kd.fresh' (Kd.N_lt (by (with_reducible repeat (first | apply nA | apply nN | apply nD)); exact HO335.out)) k_ hk_.2.1), (Kd.fresh' (Kd.N_lt (by (with_reducible repeat (first | apply nA | apply nN | apply nD)); exact HO338.out)) k_ hk_.2.1), (Kd.fresh' (Kd.N_lt (by (with_reducible repeat (first | apply nA | apply nN | apply nD)); exact HO348.out)) k_ hk_.2.1), (Kd.fresh' (Kd.N_lt (by (with_reducible repeat (first | apply nA | apply nN | apply nD)); exact HO351.out)) k_ hk_.2.1)⟩)) (below_size (by repeat (with_reducible first | exact HB.out | apply bA | apply bN | apply bD))))
          have n10_ := am (below_step (by repeat (with_reducible first | exact HB.out | apply bA | apply bN | apply bD)) hb)
          clear HO1
          clear HO321
          clear HO329
          clear HO332
          clear HO335
          clear HO338
          clear HL345_0
          clear HO348
          clear HO351
          clear HB
          have HO1 := n0_
          have HO321 := n1_
          have HO329 := n2_
          have HO332 := n3_
          have HO335 := n4_
          have HO338 := n5_
          have HL345_0 := n6_
          have HO348 := n7_
          have HO351 := n8_
          have HO354 := n9_
          have HB := n10_
          clear n0_ n1_ n2_ n3_ n4_ n5_ n6_ n7_ n8_ n9_ n10_
          (try clear hb)
          (try clear hb2)
          (try clear hk)
          (try clear hi)
          (try clear ho0)
          refine hK.out _ _ (HS0_) (fun hHeld => ?_)
          clear hK K
          refine norm_ (a' := ?_) ?_ ?_
          rotate_left
          ·show Act.put _ (some 51) _ = _
           simp only [Act.put, List.setIfInBounds_toArray, List.set_cons_zero, List.set_cons_succ, i64_w, i32_w]
           rfl
          refine pN HT_.out 11 12 ?_
          refine done_ (done_of HT_.out (by kernel_rfl)) ?_
          go_upto_region 9 with (fail)
          go_cut [63] (fun v63 wc => ∃ (kq : Nat) (x63_20 : Bool), v63 = .bool x63_20 ∧ Aside0 (sennitlaw05_AlignTurns.j0 kq l1 t312 ji8 t333 t336 t352 x63_20 = some r) ∧ Aside0 (kq ≤ k) ∧ Aside0 (Kd.V (Kd.slice 5 (Kd.int .u8)) 22 wc w.heap.size (fun k_ => (P1_ k_ ∨ w.heap.size ≤ k_) ∧ some k_ ≠ (v334 : Value).ownBlock ∧ some k_ ≠ (v337 : Value).ownBlock ∧ some k_ ≠ (v353 : Value).ownBlock) (.slice (some ad345) l1.length c1) l1) ∧ Aside0 (Kd.N k39 39 wc w.heap.size (fun k_ => (P1_ k_ ∨ w.heap.size ≤ k_) ∧ some k_ ≠ (v337 : Value).ownBlock ∧ some k_ ≠ (v353 : Value).ownBlock) v334 t333) ∧ Aside0 (Kd.N k39 39 wc w.heap.size (fun k_ => (P1_ k_ ∨ w.heap.size ≤ k_) ∧ some k_ ≠ (v334 : Value).ownBlock ∧ some k_ ≠ (v353 : Value).ownBlock) v337 t336) ∧ Aside0 (Kd.N k39 39 wc w.heap.size (fun k_ => (P1_ k_ ∨ w.heap.size ≤ k_) ∧ some k_ ≠ (v334 : Value).ownBlock ∧ some k_ ≠ (v337 : Value).ownBlock) v353 t352) ∧ Aside0 (Below w.heap.size w wc))
          case first =>
           have H := HC21.out
           clear HC21
           by_cases c44 : (t333.length : Int) = (t336.length : Int)
           ·rw [if_pos c44] at H
            have c44b0 : ((t333.length : Int) == (t336.length : Int)) = true := beq_iff_eq.mpr c44
            have c44b1 : ((t333.length : Int) != (t336.length : Int)) = false := bne_eq_false_iff_eq.mpr c44
            have c44b2 : (t333.length == t336.length) = true := by first | simpa using c44 | (simp at c44 ⊢; omega)
            clear c44
            (first | rw [c44b0] | (simp only [i64_w, i32_w]; rw [c44b0]) | skip)
            have H' := am H
            clear H
            obtain ⟨Ao45, co45, eo45⟩ := Kd.N_slice HO335.out
            subst eo45
            obtain ⟨Ao46, co46, eo46⟩ := Kd.N_slice HO338.out
            subst eo46
            obtain ⟨Ao47, co47, eo47⟩ := Kd.N_slice HO354.out
            subst eo47
            go_wp2
            go_meet
            case rel => exact ⟨_, (((t333.length : Int) != (t352.length : Int))), (by first | rfl | (simp; done) | (simp [*]; done)), H', ⟨by first | omega | exact Nat.le_refl _⟩, ⟨by (with_reducible repeat (first | apply vA | apply vN | apply vD)); exact Kd.V_mono HO1.out (fun _ hk => ⟨hk.1.1.1, ⟨hk.1.1.2.2.1, ⟨hk.1.1.2.2.2.1, hk.2⟩⟩⟩)⟩, ⟨by (with_reducible repeat (first | apply nA | apply nN | apply nD)); exact Kd.N_mono HO335.out (fun _ hk => ⟨hk.1.1.1, ⟨hk.1.1.2.2.1, hk.2⟩⟩)⟩, ⟨by (with_reducible repeat (first | apply nA | apply nN | apply nD)); exact Kd.N_mono HO338.out (fun _ hk => ⟨hk.1.1.1, ⟨hk.1.1.2.2.1, hk.2⟩⟩)⟩, ⟨by (with_reducible repeat (first | apply nA | apply nN | apply nD)); exact Kd.N_mono HO354.out (fun _ hk => ⟨hk.1, ⟨hk.2.2.1, hk.2.2.2.1⟩⟩)⟩, ⟨by repeat (with_reducible first | exact HB.out | apply bA | apply bN | apply bD)⟩⟩
           ·rw [if_neg c44] at H
            have c44b0 : ((t333.length : Int) == (t336.length : Int)) = false := beq_eq_false_iff_ne.mpr c44
            have c44b1 : ((t333.length : Int) != (t336.length : Int)) = true := bne_iff_ne.mpr c44
            have c44b2 : (t333.length == t336.length) = false := by first | simpa using c44 | (simp at c44 ⊢; omega)
            (first | rw [c44b0] | (simp only [i64_w, i32_w]; rw [c44b0]) | skip)
            first | exact (sennitlaw05_AlignTurns.j0_no _ H).elim | exact (sennitlaw05_AlignTurns.j2_no _ H).elim
          case rest =>
           clear HC21
           (try clear c1); (try clear c2); (try clear p2); (try clear c3); (try clear p3); (try clear q3); (try clear c4); (try clear c17); (try clear c19); (try clear c24); (try clear c34); (try clear p34); (try clear q34); (try clear c44); (try clear c44b0); (try clear c44b1); (try clear c44b2); (try clear p345); (try clear q345)
           obtain ⟨kq, x63_20, rfl, HA, HJ20, HO_1, HO_10, HO_11, HO_12, HB⟩ := hcut
           cases kq with
           | zero => exact absurd HA.out (by simp [sennitlaw05_AlignTurns.j0])
           | succ kj20 =>
            have H := HA.out
            clear HA
            simp only [sennitlaw05_AlignTurns.j0] at H
            by_cases c50 : x63_20 = true
            ·subst c50
             have H1 : (none) = some r := by rw [if_pos rfl] at H; exact H
             clear H
             have H := H1
             clear H1
             exact absurd H (by simp)
            ·replace c50 := Bool.eq_false_iff.mpr c50
             subst c50
             have H1 : (sennitlaw05_AlignTurns.l0 kj20 l1 t312 ji8 t333 t336 t352 0) = some r := by rw [if_neg (show ¬ (false = true) by decide)] at H; exact H
             clear H
             have H := H1
             clear H1
             have H' := am H
             clear H
             go_wp2
             go_loopg [13] kj20 (fun kq v13 w' => ∃ (x13_2 : Int), v13 = .int .i64 x13_2 ∧ Aside0 (sennitlaw05_AlignTurns.l0 kq l1 t312 ji8 t333 t336 t352 x13_2 = some r) ∧ Aside0 (kq ≤ kj20) ∧ Aside0 (Kd.V (Kd.slice 5 (Kd.int .u8)) 22 w' w.heap.size (fun k_ => (P1_ k_ ∨ w.heap.size ≤ k_) ∧ some k_ ≠ (v334 : Value).ownBlock ∧ some k_ ≠ (v337 : Value).ownBlock ∧ some k_ ≠ (v353 : Value).ownBlock) (.slice (some ad345) l1.length c1) l1) ∧ Aside0 (Kd.N k39 39 w' w.heap.size (fun k_ => (P1_ k_ ∨ w.heap.size ≤ k_) ∧ some k_ ≠ (v337 : Value).ownBlock ∧ some k_ ≠ (v353 : Value).ownBlock) v334 t333) ∧ Aside0 (Kd.N k39 39 w' w.heap.size (fun k_ => (P1_ k_ ∨ w.heap.size ≤ k_) ∧ some k_ ≠ (v334 : Value).ownBlock ∧ some k_ ≠ (v353 : Value).ownBlock) v337 t336) ∧ Aside0 (Kd.N k39 39 w' w.heap.size (fun k_ => (P1_ k_ ∨ w.heap.size ≤ k_) ∧ some k_ ≠ (v334 : Value).ownBlock ∧ some k_ ≠ (v337 : Value).ownBlock) v353 t352) ∧ Aside0 (Below w.heap.size w w'))
             case atStart => exact ⟨(0), (by first | rfl | (simp; done) | (simp [*]; done)), H', ⟨Nat.le_refl _⟩, ⟨by (with_reducible repeat (first | apply vA | apply vN | apply vD)); exact HO_1.out⟩, ⟨by (with_reducible repeat (first | apply nA | apply nN | apply nD)); exact HO_10.out⟩, ⟨by (with_reducible repeat (first | apply nA | apply nN | apply nD)); exact HO_11.out⟩, ⟨by (with_reducible repeat (first | apply nA | apply nN | apply nD)); exact HO_12.out⟩, ⟨by repeat (with_reducible first | exact HB.out | apply bA | apply bN | apply bD)⟩⟩
             case round =>
              clear H'
              (try clear c1); (try clear c2); (try clear p2); (try clear c3); (try clear p3); (try clear q3); (try clear c4); (try clear c5); (try clear c17); (try clear c19); (try clear c24); (try clear c34); (try clear p34); (try clear q34); (try clear c44); (try clear c44b0); (try clear c44b1); (try clear c44b2); (try clear c50); (try clear p2); (try clear p3); (try clear p34); (try clear p345); (try clear q3); (try clear q34); (try clear q345)
              obtain ⟨x13_2, rfl, HA, HK2, HO_1, HO_10, HO_11, HO_12, HB⟩ := hrel
              cases gk with
              | zero => exact absurd HA.out (by simp [sennitlaw05_AlignTurns.l0])
              | succ k2 =>
               have H := HA.out
               clear HA
               simp only [sennitlaw05_AlignTurns.l0] at H
               by_cases c51 : x13_2 < (t333.length : Int)
               ·rw [if_pos c51] at H
                have c51b0 : decide (x13_2 < (t333.length : Int)) = true := decide_eq_true c51
                clear c51
                have HC52 := am H
                clear H
                obtain ⟨Ao53, co53, eo53⟩ := Kd.N_slice HO_10.out
                subst eo53
                go_upto_region 14 with (fail)
                go_cut [153] (fun v153 wc => ∃ (kq : Nat) (x153_51 : Bool), v153 = .bool x153_51 ∧ Aside0 (sennitlaw05_AlignTurns.j2 kq l1 t312 ji8 t333 t336 t352 x13_2 x153_51 = some r) ∧ Aside0 (kq ≤ k2) ∧ Aside0 (Kd.V (Kd.slice 5 (Kd.int .u8)) 22 wc w.heap.size (fun k_ => (P1_ k_ ∨ w.heap.size ≤ k_) ∧ some k_ ≠ ((.slice Ao53 t333.length co53) : Value).ownBlock ∧ some k_ ≠ (v337 : Value).ownBlock ∧ some k_ ≠ (v353 : Value).ownBlock) (.slice (some ad345) l1.length c1) l1) ∧ Aside0 (Kd.N k39 39 wc w.heap.size (fun k_ => (P1_ k_ ∨ w.heap.size ≤ k_) ∧ some k_ ≠ (v337 : Value).ownBlock ∧ some k_ ≠ (v353 : Value).ownBlock) (.slice Ao53 t333.length co53) t333) ∧ Aside0 (Kd.N k39 39 wc w.heap.size (fun k_ => (P1_ k_ ∨ w.heap.size ≤ k_) ∧ some k_ ≠ ((.slice Ao53 t333.length co53) : Value).ownBlock ∧ some k_ ≠ (v353 : Value).ownBlock) v337 t336) ∧ Aside0 (Kd.N k39 39 wc w.heap.size (fun k_ => (P1_ k_ ∨ w.heap.size ≤ k_) ∧ some k_ ≠ ((.slice Ao53 t333.length co53) : Value).ownBlock ∧ some k_ ≠ (v337 : Value).ownBlock) v353 t352) ∧ Aside0 (Below w.heap.size w wc))
                case first =>
                 have H := HC52.out
                 clear HC52
                 by_cases c54 : 0 ≤ x13_2
                 ·rw [if_pos c54] at H
                  have c54b0 : decide (0 ≤ x13_2) = true := decide_eq_true c54
                  clear c54
                  (first | rw [c54b0] | (simp only [i64_w, i32_w]; rw [c54b0]) | skip)
                  by_cases c55 : (((rd_T39 t333 x13_2).f2).length : Int) = (l1.length : Int)
                  ·rw [if_pos c55] at H
                   have c55b0 : ((((rd_T39 t333 x13_2).f2).length : Int) == (l1.length : Int)) = true := beq_iff_eq.mpr c55
                   have c55b1 : ((((rd_T39 t333 x13_2).f2).length : Int) != (l1.length : Int)) = false := bne_eq_false_iff_eq.mpr c55
                   have c55b2 : (((rd_T39 t333 x13_2).f2).length == l1.length) = true := by first | simpa using c55 | (simp at c55 ⊢; omega)
                   clear c55
                   by_cases c56 : x13_2 < (t336.length : Int)
                   ·rw [if_pos c56] at H
                    have c56b0 : decide (x13_2 < (t336.length : Int)) = true := decide_eq_true c56
                    clear c56
                    by_cases c57 : (((rd_T39 t336 x13_2).f2).length : Int) = (l1.length : Int)
                    ·rw [if_pos c57] at H
                     have c57b0 : ((((rd_T39 t336 x13_2).f2).length : Int) == (l1.length : Int)) = true := beq_iff_eq.mpr c57
                     have c57b1 : ((((rd_T39 t336 x13_2).f2).length : Int) != (l1.length : Int)) = false := bne_eq_false_iff_eq.mpr c57
                     have c57b2 : (((rd_T39 t336 x13_2).f2).length == l1.length) = true := by first | simpa using c57 | (simp at c57 ⊢; omega)
                     clear c57
                     by_cases c58 : x13_2 < (t352.length : Int)
                     ·rw [if_pos c58] at H
                      have c58b0 : decide (x13_2 < (t352.length : Int)) = true := decide_eq_true c58
                      clear c58
                      by_cases c59 : (((rd_T39 t352 x13_2).f2).length : Int) = (wrap64 ((l1.length : Int) + 1))
                      ·rw [if_pos c59] at H
                       have c59b0 : ((((rd_T39 t352 x13_2).f2).length : Int) == (wrap64 ((l1.length : Int) + 1))) = true := beq_iff_eq.mpr c59
                       have c59b1 : ((((rd_T39 t352 x13_2).f2).length : Int) != (wrap64 ((l1.length : Int) + 1))) = false := bne_eq_false_iff_eq.mpr c59
                       clear c59
                       by_cases c60 : (!(((rd_T39 t333 x13_2).f1.f0) == ((rd_T39 t336 x13_2).f1.f0)) || (!(((rd_T39 t333 x13_2).f1.f1) == ((rd_T39 t336 x13_2).f1.f1)))) = true
                       ·rw [if_pos c60] at H
                        have c60b0 : (!(((rd_T39 t333 x13_2).f1.f0) == ((rd_T39 t336 x13_2).f1.f0)) || (!(((rd_T39 t333 x13_2).f1.f1) == ((rd_T39 t336 x13_2).f1.f1)))) = true := c60
                        clear c60
                        first | exact (sennitlaw05_AlignTurns.j0_no _ H).elim | exact (sennitlaw05_AlignTurns.j2_no _ H).elim
                       ·rw [if_neg c60] at H
                        have c60b0 : (!(((rd_T39 t333 x13_2).f1.f0) == ((rd_T39 t336 x13_2).f1.f0)) || (!(((rd_T39 t333 x13_2).f1.f1) == ((rd_T39 t336 x13_2).f1.f1)))) = false := by simpa using c60
                        clear c60
                        by_cases c64 : (!(((rd_T39 t333 x13_2).f1.f0) == ((rd_T39 t352 x13_2).f1.f0)) || (!(((rd_T39 t333 x13_2).f1.f1) == ((rd_T39 t352 x13_2).f1.f1)))) = true
                        ·rw [if_pos c64] at H
                         have c64b0 : (!(((rd_T39 t333 x13_2).f1.f0) == ((rd_T39 t352 x13_2).f1.f0)) || (!(((rd_T39 t333 x13_2).f1.f1) == ((rd_T39 t352 x13_2).f1.f1)))) = true := c64
                         clear c64
                         first | exact (sennitlaw05_AlignTurns.j0_no _ H).elim | exact (sennitlaw05_AlignTurns.j2_no _ H).elim
                        ·rw [if_neg c64] at H
                         have c64b0 : (!(((rd_T39 t333 x13_2).f1.f0) == ((rd_T39 t352 x13_2).f1.f0)) || (!(((rd_T39 t333 x13_2).f1.f1) == ((rd_T39 t352 x13_2).f1.f1)))) = false := by simpa using c64
                         clear c64
                         by_cases c68 : (((rd_T39 t333 x13_2).f0) != ((rd_T39 t336 x13_2).f0)) = true
                         ·rw [if_pos c68] at H
                          have c68b0 : (((rd_T39 t333 x13_2).f0) != ((rd_T39 t336 x13_2).f0)) = true := c68
                          (try (have c68b1 : decide (((rd_T39 t333 x13_2).f0) = ((rd_T39 t336 x13_2).f0)) = false := by simpa using c68))
                          (try (have c68b2 : (((rd_T39 t333 x13_2).f0) == ((rd_T39 t336 x13_2).f0)) = false := by simpa using c68))
                          (try (have c68b3 : ¬ (((rd_T39 t333 x13_2).f0) = ((rd_T39 t336 x13_2).f0)) := by simpa using c68))
                          clear c68
                          first | exact (sennitlaw05_AlignTurns.j0_no _ H).elim | exact (sennitlaw05_AlignTurns.j2_no _ H).elim
                         ·rw [if_neg c68] at H
                          have c68b0 : (((rd_T39 t333 x13_2).f0) != ((rd_T39 t336 x13_2).f0)) = false := by simpa using c68
                          (try (have c68b1 : decide (((rd_T39 t333 x13_2).f0) = ((rd_T39 t336 x13_2).f0)) = true := by simpa using c68))
                          (try (have c68b2 : (((rd_T39 t333 x13_2).f0) == ((rd_T39 t336 x13_2).f0)) = true := by simpa using c68))
                          clear c68
                          have H' := am H
                          clear H
                          try go_wp2
                          have n0_ := am (Kd.V_drew HO_1.out)
                          have n1_ := am (Kd.N_drew HO_10.out)
                          have n2_ := am (Kd.N_drew HO_11.out)
                          have n3_ := am (Kd.N_drew HO_12.out)
                          have n4_ := am (below_drew1 HB.out)
                          clear HO_1
                          clear HO_10
                          clear HO_11
                          clear HO_12
                          clear HB
                          have HO_1 := n0_
                          have HO_10 := n1_
                          have HO_11 := n2_
                          have HO_12 := n3_
                          have HB := n4_
                          clear n0_ n1_ n2_ n3_ n4_
                          have p355 : 0 ≤ (x13_2 : Int) := of_decide_eq_true (by first | (with_reducible assumption) | assumption)
                          have q355 : x13_2 < (t333.length : Int) := of_decide_eq_true (by first | (with_reducible assumption) | assumption)
                          obtain ⟨ad355, A355_3, c355_3, e355, hx355_0, hx355_1, hx355_2, hx355_3, hl355_3, hi355_3⟩ := at_T39 (Kd.N_reads' HO_10.out).2.2 x13_2 p355 q355
                          cases e355
                          obtain ⟨ce355, hce355, hMe355, hcc355⟩ := Kd.N_get HO_10.out z39 x13_2 p355 (by first | exact q355 | exact of_decide_eq_true (by first | (with_reducible assumption) | assumption) | (have e_ := (Kd.N_reads' HO_10.out).1; omega))
                          obtain ⟨ua355_3, uc355_3, rfl, ul355_3, ge355_3⟩ := k39_openF hMe355
                          have hv355_3 := hcc355 3 _ rfl
                          rw [add_field _ _ 3 (by omega)] at hv355_3
                          replace hv355_3 := Option.some.inj (hv355_3.symm.trans hx355_3)
                          injection hv355_3 with hva_ hvn_ hvc_
                          rw [hva_] at ge355_3
                          rw [hvc_] at ul355_3
                          have HL355_3 := am (show Kd.V k36 36 _ w.heap.size _ _ ((rd_T39 t333 x13_2).f2) from Kd.V_mk ul355_3 ge355_3)
                          clear hva_ hvn_ hvc_ ge355_3 ul355_3
                          clear hcc355 hce355
                          have HR355_3 := am hi355_3
                          have HC355_3 := am hl355_3
                          clear hi355_3 hl355_3
                          replace p355 := eq_true p355
                          replace q355 := eq_true q355
                          obtain ⟨Ao73, co73, eo73⟩ := Kd.N_slice HO_11.out
                          (first | subst eo73 | (injection eo73 with f1_ f2_ f3_; have f4_ := f1_.symm; have f5_ := f3_.symm; clear f1_ f2_ f3_; subst f4_; subst f5_))
                          have p356 : 0 ≤ (x13_2 : Int) := of_decide_eq_true (by first | (with_reducible assumption) | assumption)
                          have q356 : x13_2 < (t336.length : Int) := of_decide_eq_true (by first | (with_reducible assumption) | assumption)
                          obtain ⟨ad356, A356_3, c356_3, e356, hx356_0, hx356_1, hx356_2, hx356_3, hl356_3, hi356_3⟩ := at_T39 (Kd.N_reads' HO_11.out).2.2 x13_2 p356 q356
                          cases e356
                          obtain ⟨ce356, hce356, hMe356, hcc356⟩ := Kd.N_get HO_11.out z39 x13_2 p356 (by first | exact q356 | exact of_decide_eq_true (by first | (with_reducible assumption) | assumption) | (have e_ := (Kd.N_reads' HO_11.out).1; omega))
                          obtain ⟨ua356_3, uc356_3, rfl, ul356_3, ge356_3⟩ := k39_openF hMe356
                          have hv356_3 := hcc356 3 _ rfl
                          rw [add_field _ _ 3 (by omega)] at hv356_3
                          replace hv356_3 := Option.some.inj (hv356_3.symm.trans hx356_3)
                          injection hv356_3 with hva_ hvn_ hvc_
                          rw [hva_] at ge356_3
                          rw [hvc_] at ul356_3
                          have HL356_3 := am (show Kd.V k36 36 _ w.heap.size _ _ ((rd_T39 t336 x13_2).f2) from Kd.V_mk ul356_3 ge356_3)
                          clear hva_ hvn_ hvc_ ge356_3 ul356_3
                          clear hcc356 hce356
                          have HR356_3 := am hi356_3
                          have HC356_3 := am hl356_3
                          clear hi356_3 hl356_3
                          replace p356 := eq_true p356
                          replace q356 := eq_true q356
                          obtain ⟨Ao74, co74, eo74⟩ := Kd.N_slice HO_12.out
                          (first | subst eo74 | (injection eo74 with f1_ f2_ f3_; have f4_ := f1_.symm; have f5_ := f3_.symm; clear f1_ f2_ f3_; subst f4_; subst f5_))
                          have p357 : 0 ≤ (x13_2 : Int) := of_decide_eq_true (by first | (with_reducible assumption) | assumption)
                          have q357 : x13_2 < (t352.length : Int) := of_decide_eq_true (by first | (with_reducible assumption) | assumption)
                          obtain ⟨ad357, A357_3, c357_3, e357, hx357_0, hx357_1, hx357_2, hx357_3, hl357_3, hi357_3⟩ := at_T39 (Kd.N_reads' HO_12.out).2.2 x13_2 p357 q357
                          cases e357
                          obtain ⟨ce357, hce357, hMe357, hcc357⟩ := Kd.N_get HO_12.out z39 x13_2 p357 (by first | exact q357 | exact of_decide_eq_true (by first | (with_reducible assumption) | assumption) | (have e_ := (Kd.N_reads' HO_12.out).1; omega))
                          obtain ⟨ua357_3, uc357_3, rfl, ul357_3, ge357_3⟩ := k39_openF hMe357
                          have hv357_3 := hcc357 3 _ rfl
                          rw [add_field _ _ 3 (by omega)] at hv357_3
                          replace hv357_3 := Option.some.inj (hv357_3.symm.trans hx357_3)
                          injection hv357_3 with hva_ hvn_ hvc_
                          rw [hva_] at ge357_3
                          rw [hvc_] at ul357_3
                          have HL357_3 := am (show Kd.V k36 36 _ w.heap.size _ _ ((rd_T39 t352 x13_2).f2) from Kd.V_mk ul357_3 ge357_3)
                          clear hva_ hvn_ hvc_ ge357_3 ul357_3
                          clear hcc357 hce357
                          have HR357_3 := am hi357_3
                          have HC357_3 := am hl357_3
                          clear hi357_3 hl357_3
                          replace p357 := eq_true p357
                          replace q357 := eq_true q357
                          have p358 : 0 ≤ (x13_2 : Int) := of_decide_eq_true (by first | (with_reducible assumption) | assumption)
                          have q358 : x13_2 < (t333.length : Int) := of_decide_eq_true (by first | (with_reducible assumption) | assumption)
                          obtain ⟨ad358, A358_3, c358_3, e358, hx358_0, hx358_1, hx358_2, hx358_3, hl358_3, hi358_3⟩ := at_T39 (Kd.N_reads' HO_10.out).2.2 x13_2 p358 q358
                          obtain rfl : ad355 = ad358 := (by injection e358)
                          obtain ⟨ce358, hce358, hMe358, hcc358⟩ := Kd.N_get HO_10.out z39 x13_2 p358 (by first | exact q358 | exact of_decide_eq_true (by first | (with_reducible assumption) | assumption) | (have e_ := (Kd.N_reads' HO_10.out).1; omega))
                          obtain ⟨ua358_3, uc358_3, rfl, ul358_3, ge358_3⟩ := k39_openF hMe358
                          have hv358_3 := hcc358 3 _ rfl
                          rw [add_field _ _ 3 (by omega)] at hv358_3
                          replace hv358_3 := Option.some.inj (hv358_3.symm.trans hx358_3)
                          injection hv358_3 with hva_ hvn_ hvc_
                          rw [hva_] at ge358_3
                          rw [hvc_] at ul358_3
                          have HL358_3 := am (show Kd.V k36 36 _ w.heap.size _ _ ((rd_T39 t333 x13_2).f2) from Kd.V_mk ul358_3 ge358_3)
                          clear hva_ hvn_ hvc_ ge358_3 ul358_3
                          clear hcc358 hce358
                          have HR358_3 := am hi358_3
                          have HC358_3 := am hl358_3
                          clear hi358_3 hl358_3
                          replace p358 := eq_true p358
                          replace q358 := eq_true q358
                          have ea_ := Option.some.inj (hx355_3.symm.trans hx358_3)
                          injection ea_ with ea_ en_ ec_
                          subst ea_
                          subst ec_
                          clear en_
                          have p359 : 0 ≤ (x13_2 : Int) := of_decide_eq_true (by first | (with_reducible assumption) | assumption)
                          have q359 : x13_2 < (t336.length : Int) := of_decide_eq_true (by first | (with_reducible assumption) | assumption)
                          obtain ⟨ad359, A359_3, c359_3, e359, hx359_0, hx359_1, hx359_2, hx359_3, hl359_3, hi359_3⟩ := at_T39 (Kd.N_reads' HO_11.out).2.2 x13_2 p359 q359
                          obtain rfl : ad356 = ad359 := (by injection e359)
                          obtain ⟨ce359, hce359, hMe359, hcc359⟩ := Kd.N_get HO_11.out z39 x13_2 p359 (by first | exact q359 | exact of_decide_eq_true (by first | (with_reducible assumption) | assumption) | (have e_ := (Kd.N_reads' HO_11.out).1; omega))
                          obtain ⟨ua359_3, uc359_3, rfl, ul359_3, ge359_3⟩ := k39_openF hMe359
                          have hv359_3 := hcc359 3 _ rfl
                          rw [add_field _ _ 3 (by omega)] at hv359_3
                          replace hv359_3 := Option.some.inj (hv359_3.symm.trans hx359_3)
                          injection hv359_3 with hva_ hvn_ hvc_
                          rw [hva_] at ge359_3
                          rw [hvc_] at ul359_3
                          have HL359_3 := am (show Kd.V k36 36 _ w.heap.size _ _ ((rd_T39 t336 x13_2).f2) from Kd.V_mk ul359_3 ge359_3)
                          clear hva_ hvn_ hvc_ ge359_3 ul359_3
                          clear hcc359 hce359
                          have HR359_3 := am hi359_3
                          have HC359_3 := am hl359_3
                          clear hi359_3 hl359_3
                          replace p359 := eq_true p359
                          replace q359 := eq_true q359
                          have ea_ := Option.some.inj (hx356_3.symm.trans hx359_3)
                          injection ea_ with ea_ en_ ec_
                          subst ea_
                          subst ec_
                          clear en_
                          have p360 : 0 ≤ (x13_2 : Int) := of_decide_eq_true (by first | (with_reducible assumption) | assumption)
                          have q360 : x13_2 < (t333.length : Int) := of_decide_eq_true (by first | (with_reducible assumption) | assumption)
                          obtain ⟨ad360, A360_3, c360_3, e360, hx360_0, hx360_1, hx360_2, hx360_3, hl360_3, hi360_3⟩ := at_T39 (Kd.N_reads' HO_10.out).2.2 x13_2 p360 q360
                          obtain rfl : ad355 = ad360 := (by injection e360)
                          obtain ⟨ce360, hce360, hMe360, hcc360⟩ := Kd.N_get HO_10.out z39 x13_2 p360 (by first | exact q360 | exact of_decide_eq_true (by first | (with_reducible assumption) | assumption) | (have e_ := (Kd.N_reads' HO_10.out).1; omega))
                          obtain ⟨ua360_3, uc360_3, rfl, ul360_3, ge360_3⟩ := k39_openF hMe360
                          have hv360_3 := hcc360 3 _ rfl
                          rw [add_field _ _ 3 (by omega)] at hv360_3
                          replace hv360_3 := Option.some.inj (hv360_3.symm.trans hx360_3)
                          injection hv360_3 with hva_ hvn_ hvc_
                          rw [hva_] at ge360_3
                          rw [hvc_] at ul360_3
                          have HL360_3 := am (show Kd.V k36 36 _ w.heap.size _ _ ((rd_T39 t333 x13_2).f2) from Kd.V_mk ul360_3 ge360_3)
                          clear hva_ hvn_ hvc_ ge360_3 ul360_3
                          clear hcc360 hce360
                          have HR360_3 := am hi360_3
                          have HC360_3 := am hl360_3
                          clear hi360_3 hl360_3
                          replace p360 := eq_true p360
                          replace q360 := eq_true q360
                          have ea_ := Option.some.inj (hx355_3.symm.trans hx360_3)
                          injection ea_ with ea_ en_ ec_
                          subst ea_
                          subst ec_
                          clear en_
                          have p361 : 0 ≤ (x13_2 : Int) := of_decide_eq_true (by first | (with_reducible assumption) | assumption)
                          have q361 : x13_2 < (t352.length : Int) := of_decide_eq_true (by first | (with_reducible assumption) | assumption)
                          obtain ⟨ad361, A361_3, c361_3, e361, hx361_0, hx361_1, hx361_2, hx361_3, hl361_3, hi361_3⟩ := at_T39 (Kd.N_reads' HO_12.out).2.2 x13_2 p361 q361
                          obtain rfl : ad357 = ad361 := (by injection e361)
                          obtain ⟨ce361, hce361, hMe361, hcc361⟩ := Kd.N_get HO_12.out z39 x13_2 p361 (by first | exact q361 | exact of_decide_eq_true (by first | (with_reducible assumption) | assumption) | (have e_ := (Kd.N_reads' HO_12.out).1; omega))
                          obtain ⟨ua361_3, uc361_3, rfl, ul361_3, ge361_3⟩ := k39_openF hMe361
                          have hv361_3 := hcc361 3 _ rfl
                          rw [add_field _ _ 3 (by omega)] at hv361_3
                          replace hv361_3 := Option.some.inj (hv361_3.symm.trans hx361_3)
                          injection hv361_3 with hva_ hvn_ hvc_
                          rw [hva_] at ge361_3
                          rw [hvc_] at ul361_3
                          have HL361_3 := am (show Kd.V k36 36 _ w.heap.size _ _ ((rd_T39 t352 x13_2).f2) from Kd.V_mk ul361_3 ge361_3)
                          clear hva_ hvn_ hvc_ ge361_3 ul361_3
                          clear hcc361 hce361
                          have HR361_3 := am hi361_3
                          have HC361_3 := am hl361_3
                          clear hi361_3 hl361_3
                          replace p361 := eq_true p361
                          replace q361 := eq_true q361
                          have ea_ := Option.some.inj (hx357_3.symm.trans hx361_3)
                          injection ea_ with ea_ en_ ec_
                          subst ea_
                          subst ec_
                          clear en_
                          have p362 : 0 ≤ (x13_2 : Int) := of_decide_eq_true (by first | (with_reducible assumption) | assumption)
                          have q362 : x13_2 < (t333.length : Int) := of_decide_eq_true (by first | (with_reducible assumption) | assumption)
                          obtain ⟨ad362, A362_3, c362_3, e362, hx362_0, hx362_1, hx362_2, hx362_3, hl362_3, hi362_3⟩ := at_T39 (Kd.N_reads' HO_10.out).2.2 x13_2 p362 q362
                          obtain rfl : ad355 = ad362 := (by injection e362)
                          obtain ⟨ce362, hce362, hMe362, hcc362⟩ := Kd.N_get HO_10.out z39 x13_2 p362 (by first | exact q362 | exact of_decide_eq_true (by first | (with_reducible assumption) | assumption) | (have e_ := (Kd.N_reads' HO_10.out).1; omega))
                          obtain ⟨ua362_3, uc362_3, rfl, ul362_3, ge362_3⟩ := k39_openF hMe362
                          have hv362_3 := hcc362 3 _ rfl
                          rw [add_field _ _ 3 (by omega)] at hv362_3
                          replace hv362_3 := Option.some.inj (hv362_3.symm.trans hx362_3)
                          injection hv362_3 with hva_ hvn_ hvc_
                          rw [hva_] at ge362_3
                          rw [hvc_] at ul362_3
                          have HL362_3 := am (show Kd.V k36 36 _ w.heap.size _ _ ((rd_T39 t333 x13_2).f2) from Kd.V_mk ul362_3 ge362_3)
                          clear hva_ hvn_ hvc_ ge362_3 ul362_3
                          clear hcc362 hce362
                          have HR362_3 := am hi362_3
                          have HC362_3 := am hl362_3
                          clear hi362_3 hl362_3
                          replace p362 := eq_true p362
                          replace q362 := eq_true q362
                          have ea_ := Option.some.inj (hx355_3.symm.trans hx362_3)
                          injection ea_ with ea_ en_ ec_
                          subst ea_
                          subst ec_
                          clear en_
                          have p363 : 0 ≤ (x13_2 : Int) := of_decide_eq_true (by first | (with_reducible assumption) | assumption)
                          have q363 : x13_2 < (t336.length : Int) := of_decide_eq_true (by first | (with_reducible assumption) | assumption)
                          obtain ⟨ad363, A363_3, c363_3, e363, hx363_0, hx363_1, hx363_2, hx363_3, hl363_3, hi363_3⟩ := at_T39 (Kd.N_reads' HO_11.out).2.2 x13_2 p363 q363
                          obtain rfl : ad356 = ad363 := (by injection e363)
                          obtain ⟨ce363, hce363, hMe363, hcc363⟩ := Kd.N_get HO_11.out z39 x13_2 p363 (by first | exact q363 | exact of_decide_eq_true (by first | (with_reducible assumption) | assumption) | (have e_ := (Kd.N_reads' HO_11.out).1; omega))
                          obtain ⟨ua363_3, uc363_3, rfl, ul363_3, ge363_3⟩ := k39_openF hMe363
                          have hv363_3 := hcc363 3 _ rfl
                          rw [add_field _ _ 3 (by omega)] at hv363_3
                          replace hv363_3 := Option.some.inj (hv363_3.symm.trans hx363_3)
                          injection hv363_3 with hva_ hvn_ hvc_
                          rw [hva_] at ge363_3
                          rw [hvc_] at ul363_3
                          have HL363_3 := am (show Kd.V k36 36 _ w.heap.size _ _ ((rd_T39 t336 x13_2).f2) from Kd.V_mk ul363_3 ge363_3)
                          clear hva_ hvn_ hvc_ ge363_3 ul363_3
                          clear hcc363 hce363
                          have HR363_3 := am hi363_3
                          have HC363_3 := am hl363_3
                          clear hi363_3 hl363_3
                          replace p363 := eq_true p363
                          replace q363 := eq_true q363
                          have ea_ := Option.some.inj (hx356_3.symm.trans hx363_3)
                          injection ea_ with ea_ en_ ec_
                          subst ea_
                          subst ec_
                          clear en_
                          have p364 : 0 ≤ (x13_2 : Int) := of_decide_eq_true (by first | (with_reducible assumption) | assumption)
                          have q364 : x13_2 < (t333.length : Int) := of_decide_eq_true (by first | (with_reducible assumption) | assumption)
                          obtain ⟨ad364, A364_3, c364_3, e364, hx364_0, hx364_1, hx364_2, hx364_3, hl364_3, hi364_3⟩ := at_T39 (Kd.N_reads' HO_10.out).2.2 x13_2 p364 q364
                          obtain rfl : ad355 = ad364 := (by injection e364)
                          obtain ⟨ce364, hce364, hMe364, hcc364⟩ := Kd.N_get HO_10.out z39 x13_2 p364 (by first | exact q364 | exact of_decide_eq_true (by first | (with_reducible assumption) | assumption) | (have e_ := (Kd.N_reads' HO_10.out).1; omega))
                          obtain ⟨ua364_3, uc364_3, rfl, ul364_3, ge364_3⟩ := k39_openF hMe364
                          have hv364_3 := hcc364 3 _ rfl
                          rw [add_field _ _ 3 (by omega)] at hv364_3
                          replace hv364_3 := Option.some.inj (hv364_3.symm.trans hx364_3)
                          injection hv364_3 with hva_ hvn_ hvc_
                          rw [hva_] at ge364_3
                          rw [hvc_] at ul364_3
                          have HL364_3 := am (show Kd.V k36 36 _ w.heap.size _ _ ((rd_T39 t333 x13_2).f2) from Kd.V_mk ul364_3 ge364_3)
                          clear hva_ hvn_ hvc_ ge364_3 ul364_3
                          clear hcc364 hce364
                          have HR364_3 := am hi364_3
                          have HC364_3 := am hl364_3
                          clear hi364_3 hl364_3
                          replace p364 := eq_true p364
                          replace q364 := eq_true q364
                          have ea_ := Option.some.inj (hx355_3.symm.trans hx364_3)
                          injection ea_ with ea_ en_ ec_
                          subst ea_
                          subst ec_
                          clear en_
                          have p365 : 0 ≤ (x13_2 : Int) := of_decide_eq_true (by first | (with_reducible assumption) | assumption)
                          have q365 : x13_2 < (t352.length : Int) := of_decide_eq_true (by first | (with_reducible assumption) | assumption)
                          obtain ⟨ad365, A365_3, c365_3, e365, hx365_0, hx365_1, hx365_2, hx365_3, hl365_3, hi365_3⟩ := at_T39 (Kd.N_reads' HO_12.out).2.2 x13_2 p365 q365
                          obtain rfl : ad357 = ad365 := (by injection e365)
                          obtain ⟨ce365, hce365, hMe365, hcc365⟩ := Kd.N_get HO_12.out z39 x13_2 p365 (by first | exact q365 | exact of_decide_eq_true (by first | (with_reducible assumption) | assumption) | (have e_ := (Kd.N_reads' HO_12.out).1; omega))
                          obtain ⟨ua365_3, uc365_3, rfl, ul365_3, ge365_3⟩ := k39_openF hMe365
                          have hv365_3 := hcc365 3 _ rfl
                          rw [add_field _ _ 3 (by omega)] at hv365_3
                          replace hv365_3 := Option.some.inj (hv365_3.symm.trans hx365_3)
                          injection hv365_3 with hva_ hvn_ hvc_
                          rw [hva_] at ge365_3
                          rw [hvc_] at ul365_3
                          have HL365_3 := am (show Kd.V k36 36 _ w.heap.size _ _ ((rd_T39 t352 x13_2).f2) from Kd.V_mk ul365_3 ge365_3)
                          clear hva_ hvn_ hvc_ ge365_3 ul365_3
                          clear hcc365 hce365
                          have HR365_3 := am hi365_3
                          have HC365_3 := am hl365_3
                          clear hi365_3 hl365_3
                          replace p365 := eq_true p365
                          replace q365 := eq_true q365
                          have ea_ := Option.some.inj (hx357_3.symm.trans hx365_3)
                          injection ea_ with ea_ en_ ec_
                          subst ea_
                          subst ec_
                          clear en_
                          refine start_ (n := 84) (S := fun w' => w'.cell? (ad355.add ((x13_2).toNat * 4)) = some (.bool ((rd_T39 t333 x13_2).f0)) ∧ w'.cell? ⟨(ad355.add ((x13_2).toNat * 4)).block, (ad355.add ((x13_2).toNat * 4)).off + 1, none⟩ = some (.int .i64 ((rd_T39 t333 x13_2).f1.f0)) ∧ w'.cell? ⟨(ad355.add ((x13_2).toNat * 4)).block, (ad355.add ((x13_2).toNat * 4)).off + 2, none⟩ = some (.int .i64 ((rd_T39 t333 x13_2).f1.f1)) ∧ w'.cell? ⟨(ad355.add ((x13_2).toNat * 4)).block, (ad355.add ((x13_2).toNat * 4)).off + 3, none⟩ = some (.slice A355_3 ((rd_T39 t333 x13_2).f2).length c355_3) ∧ w'.cell? (ad356.add ((x13_2).toNat * 4)) = some (.bool ((rd_T39 t336 x13_2).f0)) ∧ w'.cell? ⟨(ad356.add ((x13_2).toNat * 4)).block, (ad356.add ((x13_2).toNat * 4)).off + 1, none⟩ = some (.int .i64 ((rd_T39 t336 x13_2).f1.f0)) ∧ w'.cell? ⟨(ad356.add ((x13_2).toNat * 4)).block, (ad356.add ((x13_2).toNat * 4)).off + 2, none⟩ = some (.int .i64 ((rd_T39 t336 x13_2).f1.f1)) ∧ w'.cell? ⟨(ad356.add ((x13_2).toNat * 4)).block, (ad356.add ((x13_2).toNat * 4)).off + 3, none⟩ = some (.slice A356_3 ((rd_T39 t336 x13_2).f2).length c356_3) ∧ w'.cell? (ad357.add ((x13_2).toNat * 4)) = some (.bool ((rd_T39 t352 x13_2).f0)) ∧ w'.cell? ⟨(ad357.add ((x13_2).toNat * 4)).block, (ad357.add ((x13_2).toNat * 4)).off + 1, none⟩ = some (.int .i64 ((rd_T39 t352 x13_2).f1.f0)) ∧ w'.cell? ⟨(ad357.add ((x13_2).toNat * 4)).block, (ad357.add ((x13_2).toNat * 4)).off + 2, none⟩ = some (.int .i64 ((rd_T39 t352 x13_2).f1.f1)) ∧ w'.cell? ⟨(ad357.add ((x13_2).toNat * 4)).block, (ad357.add ((x13_2).toNat * 4)).off + 3, none⟩ = some (.slice A357_3 ((rd_T39 t352 x13_2).f2).length c357_3) ∧ w'.cell? (ad355.add ((x13_2).toNat * 4)) = some (.bool ((rd_T39 t333 x13_2).f0)) ∧ w'.cell? ⟨(ad355.add ((x13_2).toNat * 4)).block, (ad355.add ((x13_2).toNat * 4)).off + 1, none⟩ = some (.int .i64 ((rd_T39 t333 x13_2).f1.f0)) ∧ w'.cell? ⟨(ad355.add ((x13_2).toNat * 4)).block, (ad355.add ((x13_2).toNat * 4)).off + 2, none⟩ = some (.int .i64 ((rd_T39 t333 x13_2).f1.f1)) ∧ w'.cell? ⟨(ad355.add ((x13_2).toNat * 4)).block, (ad355.add ((x13_2).toNat * 4)).off + 3, none⟩ = some (.slice A355_3 ((rd_T39 t333 x13_2).f2).length c355_3) ∧ w'.cell? (ad356.add ((x13_2).toNat * 4)) = some (.bool ((rd_T39 t336 x13_2).f0)) ∧ w'.cell? ⟨(ad356.add ((x13_2).toNat * 4)).block, (ad356.add ((x13_2).toNat * 4)).off + 1, none⟩ = some (.int .i64 ((rd_T39 t336 x13_2).f1.f0)) ∧ w'.cell? ⟨(ad356.add ((x13_2).toNat * 4)).block, (ad356.add ((x13_2).toNat * 4)).off + 2, none⟩ = some (.int .i64 ((rd_T39 t336 x13_2).f1.f1)) ∧ w'.cell? ⟨(ad356.add ((x13_2).toNat * 4)).block, (ad356.add ((x13_2).toNat * 4)).off + 3, none⟩ = some (.slice A356_3 ((rd_T39 t336 x13_2).f2).length c356_3) ∧ w'.cell? (ad355.add ((x13_2).toNat * 4)) = some (.bool ((rd_T39 t333 x13_2).f0)) ∧ w'.cell? ⟨(ad355.add ((x13_2).toNat * 4)).block, (ad355.add ((x13_2).toNat * 4)).off + 1, none⟩ = some (.int .i64 ((rd_T39 t333 x13_2).f1.f0)) ∧ w'.cell? ⟨(ad355.add ((x13_2).toNat * 4)).block, (ad355.add ((x13_2).toNat * 4)).off + 2, none⟩ = some (.int .i64 ((rd_T39 t333 x13_2).f1.f1)) ∧ w'.cell? ⟨(ad355.add ((x13_2).toNat * 4)).block, (ad355.add ((x13_2).toNat * 4)).off + 3, none⟩ = some (.slice A355_3 ((rd_T39 t333 x13_2).f2).length c355_3) ∧ w'.cell? (ad357.add ((x13_2).toNat * 4)) = some (.bool ((rd_T39 t352 x13_2).f0)) ∧ w'.cell? ⟨(ad357.add ((x13_2).toNat * 4)).block, (ad357.add ((x13_2).toNat * 4)).off + 1, none⟩ = some (.int .i64 ((rd_T39 t352 x13_2).f1.f0)) ∧ w'.cell? ⟨(ad357.add ((x13_2).toNat * 4)).block, (ad357.add ((x13_2).toNat * 4)).off + 2, none⟩ = some (.int .i64 ((rd_T39 t352 x13_2).f1.f1)) ∧ w'.cell? ⟨(ad357.add ((x13_2).toNat * 4)).block, (ad357.add ((x13_2).toNat * 4)).off + 3, none⟩ = some (.slice A357_3 ((rd_T39 t352 x13_2).f2).length c357_3) ∧ w'.cell? (ad355.add ((x13_2).toNat * 4)) = some (.bool ((rd_T39 t333 x13_2).f0)) ∧ w'.cell? ⟨(ad355.add ((x13_2).toNat * 4)).block, (ad355.add ((x13_2).toNat * 4)).off + 1, none⟩ = some (.int .i64 ((rd_T39 t333 x13_2).f1.f0)) ∧ w'.cell? ⟨(ad355.add ((x13_2).toNat * 4)).block, (ad355.add ((x13_2).toNat * 4)).off + 2, none⟩ = some (.int .i64 ((rd_T39 t333 x13_2).f1.f1)) ∧ w'.cell? ⟨(ad355.add ((x13_2).toNat * 4)).block, (ad355.add ((x13_2).toNat * 4)).off + 3, none⟩ = some (.slice A355_3 ((rd_T39 t333 x13_2).f2).length c355_3) ∧ w'.cell? (ad356.add ((x13_2).toNat * 4)) = some (.bool ((rd_T39 t336 x13_2).f0)) ∧ w'.cell? ⟨(ad356.add ((x13_2).toNat * 4)).block, (ad356.add ((x13_2).toNat * 4)).off + 1, none⟩ = some (.int .i64 ((rd_T39 t336 x13_2).f1.f0)) ∧ w'.cell? ⟨(ad356.add ((x13_2).toNat * 4)).block, (ad356.add ((x13_2).toNat * 4)).off + 2, none⟩ = some (.int .i64 ((rd_T39 t336 x13_2).f1.f1)) ∧ w'.cell? ⟨(ad356.add ((x13_2).toNat * 4)).block, (ad356.add ((x13_2).toNat * 4)).off + 3, none⟩ = some (.slice A356_3 ((rd_T39 t336 x13_2).f2).length c356_3) ∧ w'.cell? (ad355.add ((x13_2).toNat * 4)) = some (.bool ((rd_T39 t333 x13_2).f0)) ∧ w'.cell? ⟨(ad355.add ((x13_2).toNat * 4)).block, (ad355.add ((x13_2).toNat * 4)).off + 1, none⟩ = some (.int .i64 ((rd_T39 t333 x13_2).f1.f0)) ∧ w'.cell? ⟨(ad355.add ((x13_2).toNat * 4)).block, (ad355.add ((x13_2).toNat * 4)).off + 2, none⟩ = some (.int .i64 ((rd_T39 t333 x13_2).f1.f1)) ∧ w'.cell? ⟨(ad355.add ((x13_2).toNat * 4)).block, (ad355.add ((x13_2).toNat * 4)).off + 3, none⟩ = some (.slice A355_3 ((rd_T39 t333 x13_2).f2).length c355_3) ∧ w'.cell? (ad357.add ((x13_2).toNat * 4)) = some (.bool ((rd_T39 t352 x13_2).f0)) ∧ w'.cell? ⟨(ad357.add ((x13_2).toNat * 4)).block, (ad357.add ((x13_2).toNat * 4)).off + 1, none⟩ = some (.int .i64 ((rd_T39 t352 x13_2).f1.f0)) ∧ w'.cell? ⟨(ad357.add ((x13_2).toNat * 4)).block, (ad357.add ((x13_2).toNat * 4)).off + 2, none⟩ = some (.int .i64 ((rd_T39 t352 x13_2).f1.f1)) ∧ w'.cell? ⟨(ad357.add ((x13_2).toNat * 4)).block, (ad357.add ((x13_2).toNat * 4)).off + 3, none⟩ = some (.slice A357_3 ((rd_T39 t352 x13_2).f2).length c357_3)) (ds := []) #[false, false, false, false, false, false, false, false, false, false, false, false, false, false, false, false, false, false, false, false, false, false, false, false, false, false, false, false, false, false, false, false, false, false, false, false, false, false, false, false, false, false, false, false, false, false, false, false, false, false, false, false, false, false, false, false, false, false, false, false, false, false, false, false, false, false, false, false, false, false, false, false, false, false, false, false, false, false, false, false, false, false, false, false] (by kernel_rfl) rfl rfl ⟨hx355_0, hx355_1, hx355_2, hx355_3, hx356_0, hx356_1, hx356_2, hx356_3, hx357_0, hx357_1, hx357_2, hx357_3, hx358_0, hx358_1, hx358_2, hx358_3, hx359_0, hx359_1, hx359_2, hx359_3, hx360_0, hx360_1, hx360_2, hx360_3, hx361_0, hx361_1, hx361_2, hx361_3, hx362_0, hx362_1, hx362_2, hx362_3, hx363_0, hx363_1, hx363_2, hx363_3, hx364_0, hx364_1, hx364_2, hx364_3, hx365_0, hx365_1, hx365_2, hx365_3⟩ (fun hHeld => ?_); refine with_tabW sennitlaw05_AlignTurns.tab14 sennitlaw05_AlignTurns.bits14 (fun HT_ HW_ => ?_)
                          generalize wr.drew = w72 at HO_1 HO_10 HO_11 HO_12 HB HL355_3 HL356_3 HL357_3 HL358_3 HL359_3 HL360_3 HL361_3 HL362_3 HL363_3 HL364_3 HL365_3 HR355_3 HR356_3 HR357_3 HR358_3 HR359_3 HR360_3 HR361_3 HR362_3 HR363_3 HR364_3 HR365_3 hx355_0 hx355_1 hx355_2 hx355_3 hx356_0 hx356_1 hx356_2 hx356_3 hx357_0 hx357_1 hx357_2 hx357_3 hx358_0 hx358_1 hx358_2 hx358_3 hx359_0 hx359_1 hx359_2 hx359_3 hx360_0 hx360_1 hx360_2 hx360_3 hx361_0 hx361_1 hx361_2 hx361_3 hx362_0 hx362_1 hx362_2 hx362_3 hx363_0 hx363_1 hx363_2 hx363_3 hx364_0 hx364_1 hx364_2 hx364_3 hx365_0 hx365_1 hx365_2 hx365_3 hHeld ⊢
                          refine pN HT_.out 0 70 ?_
                          refine pN HT_.out 1 71 ?_
                          refine pN HT_.out 2 72 ?_
                          refine pN HT_.out 3 73 ?_
                          refine pN HT_.out 6 76 ?_
                          refine pN HT_.out 7 77 ?_
                          refine take_ (i := 4) (N := some 74) (v := ?_) (a' := ?_) #[true, true, true, true, true, false, true, true, false, false, false, false, false, false, false, false, false, false, false, false, false, false, false, false, false, false, false, false, false, false, false, false, false, false, false, false, false, false, false, false, false, false, false, false, false, false, false, false, false, false, false, false, false, false, false, false, false, false, false, false, false, false, false, false, false, false, false, false, false, false, false, false, false, false, false, false, false, false, false, false, false, false, false, false] rfl rfl (take_ofW HT_.out HW_.out (by kernel_rfl)) (fun _ _ _ h => h) (Or.inl ⟨by rfl, ?_⟩) hHeld ?_ ?_
                          rotate_left
                          ·rintro w' ⟨s0, s1, s2, s3, s4, s5, s6, s7, s8, s9, s10, s11, s12, s13, s14, s15, s16, s17, s18, s19, s20, s21, s22, s23, s24, s25, s26, s27, s28, s29, s30, s31, s32, s33, s34, s35, s36, s37, s38, s39, s40, s41, s42, s43⟩
                           go_simp
                           with_reducible rfl
                          rotate_left
                          ·simp only [Act.put, List.setIfInBounds_toArray, List.set_cons_zero, List.set_cons_succ, i64_w, i32_w]
                           rfl
                          refine pN HT_.out 5 75 ?_
                          refine pN HT_.out 8 78 ?_
                          refine pN HT_.out 9 79 ?_
                          refine pN HT_.out 10 80 ?_
                          refine pN HT_.out 11 81 ?_
                          refine pN HT_.out 12 82 ?_
                          refine pN HT_.out 13 83 ?_
                          refine pN HT_.out 16 86 ?_
                          refine pN HT_.out 17 87 ?_
                          refine take_ (i := 14) (N := some 84) (v := ?_) (a' := ?_) #[true, true, true, true, true, true, true, true, true, true, true, true, true, true, true, false, true, true, false, false, false, false, false, false, false, false, false, false, false, false, false, false, false, false, false, false, false, false, false, false, false, false, false, false, false, false, false, false, false, false, false, false, false, false, false, false, false, false, false, false, false, false, false, false, false, false, false, false, false, false, false, false, false, false, false, false, false, false, false, false, false, false, false, false] rfl rfl (take_ofW HT_.out HW_.out (by kernel_rfl)) (fun _ _ _ h => h) (Or.inl ⟨by rfl, ?_⟩) hHeld ?_ ?_
                          rotate_left
                          ·rintro w' ⟨s0, s1, s2, s3, s4, s5, s6, s7, s8, s9, s10, s11, s12, s13, s14, s15, s16, s17, s18, s19, s20, s21, s22, s23, s24, s25, s26, s27, s28, s29, s30, s31, s32, s33, s34, s35, s36, s37, s38, s39, s40, s41, s42, s43⟩
                           go_simp
                           with_reducible rfl
                          rotate_left
                          ·simp only [Act.put, List.setIfInBounds_toArray, List.set_cons_zero, List.set_cons_succ, i64_w, i32_w]
                           rfl
                          refine pN HT_.out 15 85 ?_
                          refine pN HT_.out 18 88 ?_
                          refine pN HT_.out 19 89 ?_
                          refine pN HT_.out 20 90 ?_
                          refine pN HT_.out 21 91 ?_
                          refine pN HT_.out 22 92 ?_
                          refine pN HT_.out 23 93 ?_
                          refine pN HT_.out 24 94 ?_
                          refine pN HT_.out 27 97 ?_
                          refine pN HT_.out 28 98 ?_
                          refine pN HT_.out 29 99 ?_
                          refine take_ (i := 25) (N := some 95) (v := ?_) (a' := ?_) #[true, true, true, true, true, true, true, true, true, true, true, true, true, true, true, true, true, true, true, true, true, true, true, true, true, true, false, true, true, true, false, false, false, false, false, false, false, false, false, false, false, false, false, false, false, false, false, false, false, false, false, false, false, false, false, false, false, false, false, false, false, false, false, false, false, false, false, false, false, false, false, false, false, false, false, false, false, false, false, false, false, false, false, false] rfl rfl (take_ofW HT_.out HW_.out (by kernel_rfl)) (fun _ _ _ h => h) (Or.inl ⟨by rfl, ?_⟩) hHeld ?_ ?_
                          rotate_left
                          ·rintro w' ⟨s0, s1, s2, s3, s4, s5, s6, s7, s8, s9, s10, s11, s12, s13, s14, s15, s16, s17, s18, s19, s20, s21, s22, s23, s24, s25, s26, s27, s28, s29, s30, s31, s32, s33, s34, s35, s36, s37, s38, s39, s40, s41, s42, s43⟩
                           go_simp
                           with_reducible rfl
                          rotate_left
                          ·simp only [Act.put, List.setIfInBounds_toArray, List.set_cons_zero, List.set_cons_succ, i64_w, i32_w]
                           rfl
                          refine pN HT_.out 26 96 ?_
                          refine pN HT_.out 30 100 ?_
                          refine pN HT_.out 31 101 ?_
                          refine pN HT_.out 32 102 ?_
                          refine pN HT_.out 33 103 ?_
                          refine pN HT_.out 34 104 ?_
                          refine pN HT_.out 35 105 ?_
                          refine pN HT_.out 36 106 ?_
                          refine pN HT_.out 38 108 ?_
                          refine pN HT_.out 39 109 ?_
                          refine pN HT_.out 40 110 ?_
                          refine pN HT_.out 41 111 ?_
                          refine take_ (i := 37) (N := some 107) (v := ?_) (a' := ?_) #[true, true, true, true, true, true, true, true, true, true, true, true, true, true, true, true, true, true, true, true, true, true, true, true, true, true, true, true, true, true, true, true, true, true, true, true, true, true, true, true, true, true, false, false, false, false, false, false, false, false, false, false, false, false, false, false, false, false, false, false, false, false, false, false, false, false, false, false, false, false, false, false, false, false, false, false, false, false, false, false, false, false, false, false] rfl rfl (take_ofW HT_.out HW_.out (by kernel_rfl)) (fun _ _ _ h => h) (Or.inl ⟨by rfl, ?_⟩) hHeld ?_ ?_
                          rotate_left
                          ·rintro w' ⟨s0, s1, s2, s3, s4, s5, s6, s7, s8, s9, s10, s11, s12, s13, s14, s15, s16, s17, s18, s19, s20, s21, s22, s23, s24, s25, s26, s27, s28, s29, s30, s31, s32, s33, s34, s35, s36, s37, s38, s39, s40, s41, s42, s43⟩
                           go_simp
                           with_reducible rfl
                          rotate_left
                          ·simp only [Act.put, List.setIfInBounds_toArray, List.set_cons_zero, List.set_cons_succ, i64_w, i32_w]
                           rfl
                          refine take_ (i := 42) (N := some 112) (v := ?_) (a' := ?_) #[true, true, true, true, true, true, true, true, true, true, true, true, true, true, true, true, true, true, true, true, true, true, true, true, true, true, true, true, true, true, true, true, true, true, true, true, true, true, true, true, true, true, true, false, false, false, false, false, false, false, false, false, false, false, false, false, false, false, false, false, false, false, false, false, false, false, false, false, false, false, false, false, false, false, false, false, false, false, false, false, false, false, false, false] rfl rfl (take_ofW HT_.out HW_.out (by kernel_rfl)) (fun _ _ _ h => h) (Or.inl ⟨by rfl, ?_⟩) hHeld ?_ ?_
                          rotate_left
                          ·rintro w' ⟨s0, s1, s2, s3, s4, s5, s6, s7, s8, s9, s10, s11, s12, s13, s14, s15, s16, s17, s18, s19, s20, s21, s22, s23, s24, s25, s26, s27, s28, s29, s30, s31, s32, s33, s34, s35, s36, s37, s38, s39, s40, s41, s42, s43⟩
                           go_simp
                           with_reducible rfl
                          rotate_left
                          ·simp only [Act.put, List.setIfInBounds_toArray, List.set_cons_zero, List.set_cons_succ, i64_w, i32_w]
                           rfl
                          refine pN HT_.out 43 113 ?_
                          refine pN HT_.out 44 114 ?_
                          refine pN HT_.out 45 115 ?_
                          refine pN HT_.out 46 116 ?_
                          refine pN HT_.out 47 117 ?_
                          refine pN HT_.out 48 118 ?_
                          refine pN HT_.out 49 119 ?_
                          refine pN HT_.out 51 121 ?_
                          refine pN HT_.out 52 122 ?_
                          refine pN HT_.out 53 123 ?_
                          refine pN HT_.out 54 124 ?_
                          refine take_ (i := 50) (N := some 120) (v := ?_) (a' := ?_) #[true, true, true, true, true, true, true, true, true, true, true, true, true, true, true, true, true, true, true, true, true, true, true, true, true, true, true, true, true, true, true, true, true, true, true, true, true, true, true, true, true, true, true, true, true, true, true, true, true, true, true, true, true, true, true, false, false, false, false, false, false, false, false, false, false, false, false, false, false, false, false, false, false, false, false, false, false, false, false, false, false, false, false, false] rfl rfl (take_ofW HT_.out HW_.out (by kernel_rfl)) (fun _ _ _ h => h) (Or.inl ⟨by rfl, ?_⟩) hHeld ?_ ?_
                          rotate_left
                          ·rintro w' ⟨s0, s1, s2, s3, s4, s5, s6, s7, s8, s9, s10, s11, s12, s13, s14, s15, s16, s17, s18, s19, s20, s21, s22, s23, s24, s25, s26, s27, s28, s29, s30, s31, s32, s33, s34, s35, s36, s37, s38, s39, s40, s41, s42, s43⟩
                           go_simp
                           with_reducible rfl
                          rotate_left
                          ·simp only [Act.put, List.setIfInBounds_toArray, List.set_cons_zero, List.set_cons_succ, i64_w, i32_w]
                           rfl
                          refine take_ (i := 55) (N := some 125) (v := ?_) (a' := ?_) #[true, true, true, true, true, true, true, true, true, true, true, true, true, true, true, true, true, true, true, true, true, true, true, true, true, true, true, true, true, true, true, true, true, true, true, true, true, true, true, true, true, true, true, true, true, true, true, true, true, true, true, true, true, true, true, true, false, false, false, false, false, false, false, false, false, false, false, false, false, false, false, false, false, false, false, false, false, false, false, false, false, false, false, false] rfl rfl (take_ofW HT_.out HW_.out (by kernel_rfl)) (fun _ _ _ h => h) (Or.inl ⟨by rfl, ?_⟩) hHeld ?_ ?_
                          rotate_left
                          ·rintro w' ⟨s0, s1, s2, s3, s4, s5, s6, s7, s8, s9, s10, s11, s12, s13, s14, s15, s16, s17, s18, s19, s20, s21, s22, s23, s24, s25, s26, s27, s28, s29, s30, s31, s32, s33, s34, s35, s36, s37, s38, s39, s40, s41, s42, s43⟩
                           go_simp
                           with_reducible rfl
                          rotate_left
                          ·simp only [Act.put, List.setIfInBounds_toArray, List.set_cons_zero, List.set_cons_succ, i64_w, i32_w]
                           rfl
                          refine pN HT_.out 56 126 ?_
                          refine pN HT_.out 57 127 ?_
                          refine pN HT_.out 58 128 ?_
                          refine pN HT_.out 59 129 ?_
                          refine pN HT_.out 60 130 ?_
                          refine pN HT_.out 61 131 ?_
                          refine pN HT_.out 62 132 ?_
                          refine pN HT_.out 64 134 ?_
                          refine pN HT_.out 65 135 ?_
                          refine pN HT_.out 66 136 ?_
                          refine pN HT_.out 67 137 ?_
                          refine take_ (i := 63) (N := some 133) (v := ?_) (a' := ?_) #[true, true, true, true, true, true, true, true, true, true, true, true, true, true, true, true, true, true, true, true, true, true, true, true, true, true, true, true, true, true, true, true, true, true, true, true, true, true, true, true, true, true, true, true, true, true, true, true, true, true, true, true, true, true, true, true, true, true, true, true, true, true, true, true, true, true, true, true, false, false, false, false, false, false, false, false, false, false, false, false, false, false, false, false] rfl rfl (take_ofW HT_.out HW_.out (by kernel_rfl)) (fun _ _ _ h => h) (Or.inl ⟨by rfl, ?_⟩) hHeld ?_ ?_
                          rotate_left
                          ·rintro w' ⟨s0, s1, s2, s3, s4, s5, s6, s7, s8, s9, s10, s11, s12, s13, s14, s15, s16, s17, s18, s19, s20, s21, s22, s23, s24, s25, s26, s27, s28, s29, s30, s31, s32, s33, s34, s35, s36, s37, s38, s39, s40, s41, s42, s43⟩
                           go_simp
                           with_reducible rfl
                          rotate_left
                          ·simp only [Act.put, List.setIfInBounds_toArray, List.set_cons_zero, List.set_cons_succ, i64_w, i32_w]
                           rfl
                          refine take_ (i := 68) (N := some 138) (v := ?_) (a' := ?_) #[true, true, true, true, true, true, true, true, true, true, true, true, true, true, true, true, true, true, true, true, true, true, true, true, true, true, true, true, true, true, true, true, true, true, true, true, true, true, true, true, true, true, true, true, true, true, true, true, true, true, true, true, true, true, true, true, true, true, true, true, true, true, true, true, true, true, true, true, true, false, false, false, false, false, false, false, false, false, false, false, false, false, false, false] rfl rfl (take_ofW HT_.out HW_.out (by kernel_rfl)) (fun _ _ _ h => h) (Or.inl ⟨by rfl, ?_⟩) hHeld ?_ ?_
                          rotate_left
                          ·rintro w' ⟨s0, s1, s2, s3, s4, s5, s6, s7, s8, s9, s10, s11, s12, s13, s14, s15, s16, s17, s18, s19, s20, s21, s22, s23, s24, s25, s26, s27, s28, s29, s30, s31, s32, s33, s34, s35, s36, s37, s38, s39, s40, s41, s42, s43⟩
                           go_simp
                           with_reducible rfl
                          rotate_left
                          ·simp only [Act.put, List.setIfInBounds_toArray, List.set_cons_zero, List.set_cons_succ, i64_w, i32_w]
                           rfl
                          refine pN HT_.out 69 139 ?_
                          refine pN HT_.out 70 140 ?_
                          refine pN HT_.out 71 141 ?_
                          refine pN HT_.out 72 142 ?_
                          refine pN HT_.out 73 143 ?_
                          refine pN HT_.out 74 144 ?_
                          refine pN HT_.out 75 145 ?_
                          refine pN HT_.out 77 147 ?_
                          refine pN HT_.out 78 148 ?_
                          refine pN HT_.out 79 149 ?_
                          refine pN HT_.out 80 150 ?_
                          refine take_ (i := 76) (N := some 146) (v := ?_) (a' := ?_) #[true, true, true, true, true, true, true, true, true, true, true, true, true, true, true, true, true, true, true, true, true, true, true, true, true, true, true, true, true, true, true, true, true, true, true, true, true, true, true, true, true, true, true, true, true, true, true, true, true, true, true, true, true, true, true, true, true, true, true, true, true, true, true, true, true, true, true, true, true, true, true, true, true, true, true, true, true, true, true, true, true, false, false, false] rfl rfl (take_ofW HT_.out HW_.out (by kernel_rfl)) (fun _ _ _ h => h) (Or.inl ⟨by rfl, ?_⟩) hHeld ?_ ?_
                          rotate_left
                          ·rintro w' ⟨s0, s1, s2, s3, s4, s5, s6, s7, s8, s9, s10, s11, s12, s13, s14, s15, s16, s17, s18, s19, s20, s21, s22, s23, s24, s25, s26, s27, s28, s29, s30, s31, s32, s33, s34, s35, s36, s37, s38, s39, s40, s41, s42, s43⟩
                           go_simp
                           with_reducible rfl
                          rotate_left
                          ·simp only [Act.put, List.setIfInBounds_toArray, List.set_cons_zero, List.set_cons_succ, i64_w, i32_w]
                           rfl
                          refine take_ (i := 81) (N := some 151) (v := ?_) (a' := ?_) #[true, true, true, true, true, true, true, true, true, true, true, true, true, true, true, true, true, true, true, true, true, true, true, true, true, true, true, true, true, true, true, true, true, true, true, true, true, true, true, true, true, true, true, true, true, true, true, true, true, true, true, true, true, true, true, true, true, true, true, true, true, true, true, true, true, true, true, true, true, true, true, true, true, true, true, true, true, true, true, true, true, true, false, false] rfl rfl (take_ofW HT_.out HW_.out (by kernel_rfl)) (fun _ _ _ h => h) (Or.inl ⟨by rfl, ?_⟩) hHeld ?_ ?_
                          rotate_left
                          ·rintro w' ⟨s0, s1, s2, s3, s4, s5, s6, s7, s8, s9, s10, s11, s12, s13, s14, s15, s16, s17, s18, s19, s20, s21, s22, s23, s24, s25, s26, s27, s28, s29, s30, s31, s32, s33, s34, s35, s36, s37, s38, s39, s40, s41, s42, s43⟩
                           go_simp
                           with_reducible rfl
                          rotate_left
                          ·simp only [Act.put, List.setIfInBounds_toArray, List.set_cons_zero, List.set_cons_succ, i64_w, i32_w]
                           rfl
                          refine pN HT_.out 82 152 ?_
                          refine pN HT_.out 83 153 ?_
                          refine done_ (done_of HT_.out (by kernel_rfl)) ?_
                          try go_wp2
                          go_meet
                          case rel => exact ⟨_, ((((rd_T39 t333 x13_2).f0) != ((rd_T39 t352 x13_2).f0))), (by first | rfl | (simp; done) | (simp [*]; done)), H', ⟨by have := HJ20.out; have := HK2.out; first | omega | exact Nat.le_refl _⟩, ⟨by (with_reducible repeat (first | apply vA | apply vN | apply vD)); exact HO_1.out⟩, ⟨by (with_reducible repeat (first | apply nA | apply nN | apply nD)); exact HO_10.out⟩, ⟨by (with_reducible repeat (first | apply nA | apply nN | apply nD)); exact HO_11.out⟩, ⟨by (with_reducible repeat (first | apply nA | apply nN | apply nD)); exact HO_12.out⟩, ⟨by repeat (with_reducible first | exact HB.out | apply bA | apply bN | apply bD)⟩⟩
                      ·rw [if_neg c59] at H
                       have c59b0 : ((((rd_T39 t352 x13_2).f2).length : Int) == (wrap64 ((l1.length : Int) + 1))) = false := beq_eq_false_iff_ne.mpr c59
                       have c59b1 : ((((rd_T39 t352 x13_2).f2).length : Int) != (wrap64 ((l1.length : Int) + 1))) = true := bne_iff_ne.mpr c59
                       first | exact (sennitlaw05_AlignTurns.j0_no _ H).elim | exact (sennitlaw05_AlignTurns.j2_no _ H).elim
                     ·rw [if_neg c58] at H
                      exact absurd H (by simp)
                    ·rw [if_neg c57] at H
                     have c57b0 : ((((rd_T39 t336 x13_2).f2).length : Int) == (l1.length : Int)) = false := beq_eq_false_iff_ne.mpr c57
                     have c57b1 : ((((rd_T39 t336 x13_2).f2).length : Int) != (l1.length : Int)) = true := bne_iff_ne.mpr c57
                     have c57b2 : (((rd_T39 t336 x13_2).f2).length == l1.length) = false := by first | simpa using c57 | (simp at c57 ⊢; omega)
                     first | exact (sennitlaw05_AlignTurns.j0_no _ H).elim | exact (sennitlaw05_AlignTurns.j2_no _ H).elim
                   ·rw [if_neg c56] at H
                    exact absurd H (by simp)
                  ·rw [if_neg c55] at H
                   have c55b0 : ((((rd_T39 t333 x13_2).f2).length : Int) == (l1.length : Int)) = false := beq_eq_false_iff_ne.mpr c55
                   have c55b1 : ((((rd_T39 t333 x13_2).f2).length : Int) != (l1.length : Int)) = true := bne_iff_ne.mpr c55
                   have c55b2 : (((rd_T39 t333 x13_2).f2).length == l1.length) = false := by first | simpa using c55 | (simp at c55 ⊢; omega)
                   first | exact (sennitlaw05_AlignTurns.j0_no _ H).elim | exact (sennitlaw05_AlignTurns.j2_no _ H).elim
                 ·rw [if_neg c54] at H
                  exact absurd H (by simp)
                case rest =>
                 clear HC52
                 (try clear p2); (try clear c3); (try clear p3); (try clear q3); (try clear hx3); (try clear c5); (try clear c35); (try clear p35); (try clear q35); (try clear hx35); (try clear c54); (try clear c55); (try clear c55b0); (try clear c55b1); (try clear c55b2); (try clear c56); (try clear hx355_0); (try clear hx355_1); (try clear hx355_2); (try clear hx355_3); (try clear p355); (try clear q355)
                 obtain ⟨kq, x153_51, rfl, HA, HJ51, HO_1, HO_10, HO_11, HO_12, HB⟩ := hcut
                 cases kq with
                 | zero => exact absurd HA.out (by simp [sennitlaw05_AlignTurns.j2])
                 | succ kj51 =>
                  have H := HA.out
                  clear HA
                  simp only [sennitlaw05_AlignTurns.j2] at H
                  by_cases c81 : x153_51 = true
                  ·subst c81
                   have H1 : (none) = some r := by rw [if_pos rfl] at H; exact H
                   clear H
                   have H := H1
                   clear H1
                   exact absurd H (by simp)
                  ·replace c81 := Bool.eq_false_iff.mpr c81
                   subst c81
                   have H1 : (sennitlaw05_AlignTurns.l1 kj51 l1 t312 ji8 t333 t336 t352 x13_2 0) = some r := by rw [if_neg (show ¬ (false = true) by decide)] at H; exact H
                   clear H
                   have H := H1
                   clear H1
                   have H' := am H
                   clear H
                   go_wp2
                   go_loopg [14] kj51 (fun kq v14 w' => ∃ (x14_4 : Int), v14 = .int .i64 x14_4 ∧ Aside0 (sennitlaw05_AlignTurns.l1 kq l1 t312 ji8 t333 t336 t352 x13_2 x14_4 = some r) ∧ Aside0 (kq ≤ kj51) ∧ Aside0 (Kd.V (Kd.slice 5 (Kd.int .u8)) 22 w' w.heap.size (fun k_ => (P1_ k_ ∨ w.heap.size ≤ k_) ∧ some k_ ≠ ((.slice Ao53 t333.length co53) : Value).ownBlock ∧ some k_ ≠ (v337 : Value).ownBlock ∧ some k_ ≠ (v353 : Value).ownBlock) (.slice (some ad345) l1.length c1) l1) ∧ Aside0 (Kd.N k39 39 w' w.heap.size (fun k_ => (P1_ k_ ∨ w.heap.size ≤ k_) ∧ some k_ ≠ (v337 : Value).ownBlock ∧ some k_ ≠ (v353 : Value).ownBlock) (.slice Ao53 t333.length co53) t333) ∧ Aside0 (Kd.N k39 39 w' w.heap.size (fun k_ => (P1_ k_ ∨ w.heap.size ≤ k_) ∧ some k_ ≠ ((.slice Ao53 t333.length co53) : Value).ownBlock ∧ some k_ ≠ (v353 : Value).ownBlock) v337 t336) ∧ Aside0 (Kd.N k39 39 w' w.heap.size (fun k_ => (P1_ k_ ∨ w.heap.size ≤ k_) ∧ some k_ ≠ ((.slice Ao53 t333.length co53) : Value).ownBlock ∧ some k_ ≠ (v337 : Value).ownBlock) v353 t352) ∧ Aside0 (Below w.heap.size w w'))
                   case atStart => exact ⟨(0), (by first | rfl | (simp; done) | (simp [*]; done)), H', ⟨Nat.le_refl _⟩, ⟨by (with_reducible repeat (first | apply vA | apply vN | apply vD)); exact HO_1.out⟩, ⟨by (with_reducible repeat (first | apply nA | apply nN | apply nD)); exact HO_10.out⟩, ⟨by (with_reducible repeat (first | apply nA | apply nN | apply nD)); exact HO_11.out⟩, ⟨by (with_reducible repeat (first | apply nA | apply nN | apply nD)); exact HO_12.out⟩, ⟨by repeat (with_reducible first | exact HB.out | apply bA | apply bN | apply bD)⟩⟩
                   case round =>
                    clear H'
                    (try clear c1); (try clear p2); (try clear c3); (try clear p3); (try clear q3); (try clear hx3); (try clear c5); (try clear c8); (try clear c35); (try clear p35); (try clear q35); (try clear hx35); (try clear c54); (try clear c55); (try clear c55b0); (try clear c55b1); (try clear c55b2); (try clear c56); (try clear c81); (try clear hx355_0); (try clear hx355_1); (try clear hx355_2); (try clear hx355_3); (try clear p2); (try clear p3); (try clear p35); (try clear p355); (try clear q3); (try clear q35); (try clear q355)
                    obtain ⟨x14_4, rfl, HA, HK4, HO_1, HO_10, HO_11, HO_12, HB⟩ := hrel
                    cases gk with
                    | zero => exact absurd HA.out (by simp [sennitlaw05_AlignTurns.l1])
                    | succ k4 =>
                     have H := HA.out
                     clear HA
                     simp only [sennitlaw05_AlignTurns.l1] at H
                     by_cases c82 : x14_4 < (l1.length : Int)
                     ·rw [if_pos c82] at H
                      have c82b0 : decide (x14_4 < (l1.length : Int)) = true := decide_eq_true c82
                      clear c82
                      by_cases c83 : 0 ≤ x13_2
                      ·rw [if_pos c83] at H
                       have c83b0 : decide (0 ≤ x13_2) = true := decide_eq_true c83
                       clear c83
                       by_cases c84 : x13_2 < (t336.length : Int)
                       ·rw [if_pos c84] at H
                        have c84b0 : decide (x13_2 < (t336.length : Int)) = true := decide_eq_true c84
                        clear c84
                        by_cases c85 : 0 ≤ x14_4
                        ·rw [if_pos c85] at H
                         have c85b0 : decide (0 ≤ x14_4) = true := decide_eq_true c85
                         clear c85
                         by_cases c86 : x14_4 < (((rd_T39 t336 x13_2).f2).length : Int)
                         ·rw [if_pos c86] at H
                          have c86b0 : decide (x14_4 < (((rd_T39 t336 x13_2).f2).length : Int)) = true := decide_eq_true c86
                          clear c86
                          by_cases c87 : x13_2 < (t333.length : Int)
                          ·rw [if_pos c87] at H
                           have c87b0 : decide (x13_2 < (t333.length : Int)) = true := decide_eq_true c87
                           clear c87
                           by_cases c88 : (l1.length : Int) = 0
                           ·rw [if_pos c88] at H
                            exact absurd H (by simp)
                           ·rw [if_neg c88] at H
                            have c88b0 : ((l1.length : Int) == 0) = false := beq_eq_false_iff_ne.mpr c88
                            have c88b1 : ((l1.length : Int) != 0) = true := bne_iff_ne.mpr c88
                            have c88b2 : ¬ (l1 = []) := fun h_ => c88 (by rw [h_]; rfl)
                            obtain ⟨ji89, hji89⟩ : ∃ j_ : Int, (Int.tmod (wrap64 (x14_4 + ji8)) (l1.length : Int)) = j_ := ⟨_, rfl⟩
                            replace H : (if 0 ≤ (ji89) then (if (ji89) < (((rd_T39 t333 x13_2).f2).length : Int) then (if (!(((rd_T36 ((rd_T39 t336 x13_2).f2) x14_4).f0) == ((rd_T36 ((rd_T39 t333 x13_2).f2) (ji89)).f0)) || (!(((rd_T36 ((rd_T39 t336 x13_2).f2) x14_4).f1) == ((rd_T36 ((rd_T39 t333 x13_2).f2) (ji89)).f1)))) = true then (none) else (if x13_2 < (t352.length : Int) then (if x14_4 < (((rd_T39 t352 x13_2).f2).length : Int) then (if x14_4 < (((rd_T39 t333 x13_2).f2).length : Int) then (if (!(((rd_T36 ((rd_T39 t352 x13_2).f2) x14_4).f0) == ((rd_T36 ((rd_T39 t333 x13_2).f2) x14_4).f0)) || (!(((rd_T36 ((rd_T39 t352 x13_2).f2) x14_4).f1) == ((rd_T36 ((rd_T39 t333 x13_2).f2) x14_4).f1)))) = true then (none) else (sennitlaw05_AlignTurns.l1 k4 l1 t312 ji8 t333 t336 t352 x13_2 (wrap64 (x14_4 + 1)))) else (none)) else (none)) else (none))) else (none)) else (none)) = some r := by first | (rw [hji89] at H; exact H) | (simp only [hji89] at H ⊢; exact H)
                            by_cases c90 : 0 ≤ (ji89)
                            ·rw [if_pos c90] at H
                             have c90b0 : decide (0 ≤ (ji89)) = true := decide_eq_true c90
                             clear c90
                             by_cases c91 : (ji89) < (((rd_T39 t333 x13_2).f2).length : Int)
                             ·rw [if_pos c91] at H
                              have c91b0 : decide ((ji89) < (((rd_T39 t333 x13_2).f2).length : Int)) = true := decide_eq_true c91
                              clear c91
                              by_cases c92 : (!(((rd_T36 ((rd_T39 t336 x13_2).f2) x14_4).f0) == ((rd_T36 ((rd_T39 t333 x13_2).f2) (ji89)).f0)) || (!(((rd_T36 ((rd_T39 t336 x13_2).f2) x14_4).f1) == ((rd_T36 ((rd_T39 t333 x13_2).f2) (ji89)).f1)))) = true
                              ·rw [if_pos c92] at H
                               have c92b0 : (!(((rd_T36 ((rd_T39 t336 x13_2).f2) x14_4).f0) == ((rd_T36 ((rd_T39 t333 x13_2).f2) (ji89)).f0)) || (!(((rd_T36 ((rd_T39 t336 x13_2).f2) x14_4).f1) == ((rd_T36 ((rd_T39 t333 x13_2).f2) (ji89)).f1)))) = true := c92
                               clear c92
                               exact absurd H (by simp)
                              ·rw [if_neg c92] at H
                               have c92b0 : (!(((rd_T36 ((rd_T39 t336 x13_2).f2) x14_4).f0) == ((rd_T36 ((rd_T39 t333 x13_2).f2) (ji89)).f0)) || (!(((rd_T36 ((rd_T39 t336 x13_2).f2) x14_4).f1) == ((rd_T36 ((rd_T39 t333 x13_2).f2) (ji89)).f1)))) = false := by simpa using c92
                               clear c92
                               by_cases c95 : x13_2 < (t352.length : Int)
                               ·rw [if_pos c95] at H
                                have c95b0 : decide (x13_2 < (t352.length : Int)) = true := decide_eq_true c95
                                clear c95
                                by_cases c96 : x14_4 < (((rd_T39 t352 x13_2).f2).length : Int)
                                ·rw [if_pos c96] at H
                                 have c96b0 : decide (x14_4 < (((rd_T39 t352 x13_2).f2).length : Int)) = true := decide_eq_true c96
                                 clear c96
                                 by_cases c97 : x14_4 < (((rd_T39 t333 x13_2).f2).length : Int)
                                 ·rw [if_pos c97] at H
                                  have c97b0 : decide (x14_4 < (((rd_T39 t333 x13_2).f2).length : Int)) = true := decide_eq_true c97
                                  clear c97
                                  by_cases c98 : (!(((rd_T36 ((rd_T39 t352 x13_2).f2) x14_4).f0) == ((rd_T36 ((rd_T39 t333 x13_2).f2) x14_4).f0)) || (!(((rd_T36 ((rd_T39 t352 x13_2).f2) x14_4).f1) == ((rd_T36 ((rd_T39 t333 x13_2).f2) x14_4).f1)))) = true
                                  ·rw [if_pos c98] at H
                                   have c98b0 : (!(((rd_T36 ((rd_T39 t352 x13_2).f2) x14_4).f0) == ((rd_T36 ((rd_T39 t333 x13_2).f2) x14_4).f0)) || (!(((rd_T36 ((rd_T39 t352 x13_2).f2) x14_4).f1) == ((rd_T36 ((rd_T39 t333 x13_2).f2) x14_4).f1)))) = true := c98
                                   clear c98
                                   exact absurd H (by simp)
                                  ·rw [if_neg c98] at H
                                   have c98b0 : (!(((rd_T36 ((rd_T39 t352 x13_2).f2) x14_4).f0) == ((rd_T36 ((rd_T39 t333 x13_2).f2) x14_4).f0)) || (!(((rd_T36 ((rd_T39 t352 x13_2).f2) x14_4).f1) == ((rd_T36 ((rd_T39 t333 x13_2).f2) x14_4).f1)))) = false := by simpa using c98
                                   clear c98
                                   have H' := am H
                                   clear H
                                   try go_wp2
                                   have n0_ := am (Kd.V_drew HO_1.out)
                                   have n1_ := am (Kd.N_drew HO_10.out)
                                   have n2_ := am (Kd.N_drew HO_11.out)
                                   have n3_ := am (Kd.N_drew HO_12.out)
                                   have n4_ := am (below_drew1 HB.out)
                                   clear HO_1
                                   clear HO_10
                                   clear HO_11
                                   clear HO_12
                                   clear HB
                                   have HO_1 := n0_
                                   have HO_10 := n1_
                                   have HO_11 := n2_
                                   have HO_12 := n3_
                                   have HB := n4_
                                   clear n0_ n1_ n2_ n3_ n4_
                                   obtain ⟨Ao103, co103, eo103⟩ := Kd.N_slice HO_11.out
                                   (first | subst eo103 | (injection eo103 with f1_ f2_ f3_; have f4_ := f1_.symm; have f5_ := f3_.symm; clear f1_ f2_ f3_; subst f4_; subst f5_))
                                   have p366 : 0 ≤ (x13_2 : Int) := of_decide_eq_true (by first | (with_reducible assumption) | assumption)
                                   have q366 : x13_2 < (t336.length : Int) := of_decide_eq_true (by first | (with_reducible assumption) | assumption)
                                   obtain ⟨ad366, A366_3, c366_3, e366, hx366_0, hx366_1, hx366_2, hx366_3, hl366_3, hi366_3⟩ := at_T39 (Kd.N_reads' HO_11.out).2.2 x13_2 p366 q366
                                   cases e366
                                   obtain ⟨ce366, hce366, hMe366, hcc366⟩ := Kd.N_get HO_11.out z39 x13_2 p366 (by first | exact q366 | exact of_decide_eq_true (by first | (with_reducible assumption) | assumption) | (have e_ := (Kd.N_reads' HO_11.out).1; omega))
                                   obtain ⟨ua366_3, uc366_3, rfl, ul366_3, ge366_3⟩ := k39_openF hMe366
                                   have hv366_3 := hcc366 3 _ rfl
                                   rw [add_field _ _ 3 (by omega)] at hv366_3
                                   replace hv366_3 := Option.some.inj (hv366_3.symm.trans hx366_3)
                                   injection hv366_3 with hva_ hvn_ hvc_
                                   rw [hva_] at ge366_3
                                   rw [hvc_] at ul366_3
                                   have HL366_3 := am (show Kd.V k36 36 _ w.heap.size _ _ ((rd_T39 t336 x13_2).f2) from Kd.V_mk ul366_3 ge366_3)
                                   clear hva_ hvn_ hvc_ ge366_3 ul366_3
                                   clear hcc366 hce366
                                   have HR366_3 := am hi366_3
                                   have HC366_3 := am hl366_3
                                   clear hi366_3 hl366_3
                                   replace p366 := eq_true p366
                                   replace q366 := eq_true q366
                                   have p367 : 0 ≤ (x14_4 : Int) := of_decide_eq_true (by first | (with_reducible assumption) | assumption)
                                   have q367 : x14_4 < (((rd_T39 t336 x13_2).f2).length : Int) := of_decide_eq_true (by first | (with_reducible assumption) | assumption)
                                   obtain ⟨ad367, e367, hx367_0, hx367_1⟩ := at_T36 (by repeat (first | (with_reducible exact HR366_3.out) | (with_reducible refine Kd.C_alloc ?_ _) | (with_reducible refine Kd.C_drewN ?_ _) | (with_reducible refine Kd.C_drew ?_) | exact HR366_3.out)) x14_4 p367 q367
                                   cases e367
                                   replace p367 := eq_true p367
                                   replace q367 := eq_true q367
                                   have p368 : 0 ≤ (x13_2 : Int) := of_decide_eq_true (by first | (with_reducible assumption) | assumption)
                                   have q368 : x13_2 < (t333.length : Int) := of_decide_eq_true (by first | (with_reducible assumption) | assumption)
                                   obtain ⟨ad368, A368_3, c368_3, e368, hx368_0, hx368_1, hx368_2, hx368_3, hl368_3, hi368_3⟩ := at_T39 (Kd.N_reads' HO_10.out).2.2 x13_2 p368 q368
                                   cases e368
                                   obtain ⟨ce368, hce368, hMe368, hcc368⟩ := Kd.N_get HO_10.out z39 x13_2 p368 (by first | exact q368 | exact of_decide_eq_true (by first | (with_reducible assumption) | assumption) | (have e_ := (Kd.N_reads' HO_10.out).1; omega))
                                   obtain ⟨ua368_3, uc368_3, rfl, ul368_3, ge368_3⟩ := k39_openF hMe368
                                   have hv368_3 := hcc368 3 _ rfl
                                   rw [add_field _ _ 3 (by omega)] at hv368_3
                                   replace hv368_3 := Option.some.inj (hv368_3.symm.trans hx368_3)
                                   injection hv368_3 with hva_ hvn_ hvc_
                                   rw [hva_] at ge368_3
                                   rw [hvc_] at ul368_3
                                   have HL368_3 := am (show Kd.V k36 36 _ w.heap.size _ _ ((rd_T39 t333 x13_2).f2) from Kd.V_mk ul368_3 ge368_3)
                                   clear hva_ hvn_ hvc_ ge368_3 ul368_3
                                   clear hcc368 hce368
                                   have HR368_3 := am hi368_3
                                   have HC368_3 := am hl368_3
                                   clear hi368_3 hl368_3
                                   replace p368 := eq_true p368
                                   replace q368 := eq_true q368
                                   have p369 : 0 ≤ ((ji89) : Int) := of_decide_eq_true (by first | (with_reducible assumption) | assumption)
                                   have q369 : (ji89) < (((rd_T39 t333 x13_2).f2).length : Int) := of_decide_eq_true (by first | (with_reducible assumption) | assumption)
                                   obtain ⟨ad369, e369, hx369_0, hx369_1⟩ := at_T36 (by repeat (first | (with_reducible exact HR368_3.out) | (with_reducible refine Kd.C_alloc ?_ _) | (with_reducible refine Kd.C_drewN ?_ _) | (with_reducible refine Kd.C_drew ?_) | exact HR368_3.out)) (ji89) p369 q369
                                   cases e369
                                   replace p369 := eq_true p369
                                   replace q369 := eq_true q369
                                   obtain ⟨Ao104, co104, eo104⟩ := Kd.N_slice HO_12.out
                                   (first | subst eo104 | (injection eo104 with f1_ f2_ f3_; have f4_ := f1_.symm; have f5_ := f3_.symm; clear f1_ f2_ f3_; subst f4_; subst f5_))
                                   have p370 : 0 ≤ (x13_2 : Int) := of_decide_eq_true (by first | (with_reducible assumption) | assumption)
                                   have q370 : x13_2 < (t352.length : Int) := of_decide_eq_true (by first | (with_reducible assumption) | assumption)
                                   obtain ⟨ad370, A370_3, c370_3, e370, hx370_0, hx370_1, hx370_2, hx370_3, hl370_3, hi370_3⟩ := at_T39 (Kd.N_reads' HO_12.out).2.2 x13_2 p370 q370
                                   cases e370
                                   obtain ⟨ce370, hce370, hMe370, hcc370⟩ := Kd.N_get HO_12.out z39 x13_2 p370 (by first | exact q370 | exact of_decide_eq_true (by first | (with_reducible assumption) | assumption) | (have e_ := (Kd.N_reads' HO_12.out).1; omega))
                                   obtain ⟨ua370_3, uc370_3, rfl, ul370_3, ge370_3⟩ := k39_openF hMe370
                                   have hv370_3 := hcc370 3 _ rfl
                                   rw [add_field _ _ 3 (by omega)] at hv370_3
                                   replace hv370_3 := Option.some.inj (hv370_3.symm.trans hx370_3)
                                   injection hv370_3 with hva_ hvn_ hvc_
                                   rw [hva_] at ge370_3
                                   rw [hvc_] at ul370_3
                                   have HL370_3 := am (show Kd.V k36 36 _ w.heap.size _ _ ((rd_T39 t352 x13_2).f2) from Kd.V_mk ul370_3 ge370_3)
                                   clear hva_ hvn_ hvc_ ge370_3 ul370_3
                                   clear hcc370 hce370
                                   have HR370_3 := am hi370_3
                                   have HC370_3 := am hl370_3
                                   clear hi370_3 hl370_3
                                   replace p370 := eq_true p370
                                   replace q370 := eq_true q370
                                   have p371 : 0 ≤ (x14_4 : Int) := of_decide_eq_true (by first | (with_reducible assumption) | assumption)
                                   have q371 : x14_4 < (((rd_T39 t352 x13_2).f2).length : Int) := of_decide_eq_true (by first | (with_reducible assumption) | assumption)
                                   obtain ⟨ad371, e371, hx371_0, hx371_1⟩ := at_T36 (by repeat (first | (with_reducible exact HR370_3.out) | (with_reducible refine Kd.C_alloc ?_ _) | (with_reducible refine Kd.C_drewN ?_ _) | (with_reducible refine Kd.C_drew ?_) | exact HR370_3.out)) x14_4 p371 q371
                                   cases e371
                                   replace p371 := eq_true p371
                                   replace q371 := eq_true q371
                                   have p372 : 0 ≤ (x13_2 : Int) := of_decide_eq_true (by first | (with_reducible assumption) | assumption)
                                   have q372 : x13_2 < (t333.length : Int) := of_decide_eq_true (by first | (with_reducible assumption) | assumption)
                                   obtain ⟨ad372, A372_3, c372_3, e372, hx372_0, hx372_1, hx372_2, hx372_3, hl372_3, hi372_3⟩ := at_T39 (Kd.N_reads' HO_10.out).2.2 x13_2 p372 q372
                                   obtain rfl : ad368 = ad372 := (by injection e372)
                                   obtain ⟨ce372, hce372, hMe372, hcc372⟩ := Kd.N_get HO_10.out z39 x13_2 p372 (by first | exact q372 | exact of_decide_eq_true (by first | (with_reducible assumption) | assumption) | (have e_ := (Kd.N_reads' HO_10.out).1; omega))
                                   obtain ⟨ua372_3, uc372_3, rfl, ul372_3, ge372_3⟩ := k39_openF hMe372
                                   have hv372_3 := hcc372 3 _ rfl
                                   rw [add_field _ _ 3 (by omega)] at hv372_3
                                   replace hv372_3 := Option.some.inj (hv372_3.symm.trans hx372_3)
                                   injection hv372_3 with hva_ hvn_ hvc_
                                   rw [hva_] at ge372_3
                                   rw [hvc_] at ul372_3
                                   have HL372_3 := am (show Kd.V k36 36 _ w.heap.size _ _ ((rd_T39 t333 x13_2).f2) from Kd.V_mk ul372_3 ge372_3)
                                   clear hva_ hvn_ hvc_ ge372_3 ul372_3
                                   clear hcc372 hce372
                                   have HR372_3 := am hi372_3
                                   have HC372_3 := am hl372_3
                                   clear hi372_3 hl372_3
                                   replace p372 := eq_true p372
                                   replace q372 := eq_true q372
                                   have ea_ := Option.some.inj (hx368_3.symm.trans hx372_3)
                                   injection ea_ with ea_ en_ ec_
                                   subst ea_
                                   subst ec_
                                   clear en_
                                   have p373 : 0 ≤ (x14_4 : Int) := of_decide_eq_true (by first | (with_reducible assumption) | assumption)
                                   have q373 : x14_4 < (((rd_T39 t333 x13_2).f2).length : Int) := of_decide_eq_true (by first | (with_reducible assumption) | assumption)
                                   obtain ⟨ad373, e373, hx373_0, hx373_1⟩ := at_T36 (by repeat (first | (with_reducible exact HR372_3.out) | (with_reducible refine Kd.C_alloc ?_ _) | (with_reducible refine Kd.C_drewN ?_ _) | (with_reducible refine Kd.C_drew ?_) | exact HR372_3.out)) x14_4 p373 q373
                                   cases e373
                                   replace p373 := eq_true p373
                                   replace q373 := eq_true q373
                                   refine start_ (n := 41) (S := fun w' => w'.cell? (ad366.add ((x13_2).toNat * 4)) = some (.bool ((rd_T39 t336 x13_2).f0)) ∧ w'.cell? ⟨(ad366.add ((x13_2).toNat * 4)).block, (ad366.add ((x13_2).toNat * 4)).off + 1, none⟩ = some (.int .i64 ((rd_T39 t336 x13_2).f1.f0)) ∧ w'.cell? ⟨(ad366.add ((x13_2).toNat * 4)).block, (ad366.add ((x13_2).toNat * 4)).off + 2, none⟩ = some (.int .i64 ((rd_T39 t336 x13_2).f1.f1)) ∧ w'.cell? ⟨(ad366.add ((x13_2).toNat * 4)).block, (ad366.add ((x13_2).toNat * 4)).off + 3, none⟩ = some (.slice (some ad367) ((rd_T39 t336 x13_2).f2).length c366_3) ∧ w'.cell? (ad367.add ((x14_4).toNat * 2)) = some (.int .i64 ((rd_T36 ((rd_T39 t336 x13_2).f2) x14_4).f0)) ∧ w'.cell? ⟨(ad367.add ((x14_4).toNat * 2)).block, (ad367.add ((x14_4).toNat * 2)).off + 1, none⟩ = some (.int .i64 ((rd_T36 ((rd_T39 t336 x13_2).f2) x14_4).f1)) ∧ w'.cell? (ad368.add ((x13_2).toNat * 4)) = some (.bool ((rd_T39 t333 x13_2).f0)) ∧ w'.cell? ⟨(ad368.add ((x13_2).toNat * 4)).block, (ad368.add ((x13_2).toNat * 4)).off + 1, none⟩ = some (.int .i64 ((rd_T39 t333 x13_2).f1.f0)) ∧ w'.cell? ⟨(ad368.add ((x13_2).toNat * 4)).block, (ad368.add ((x13_2).toNat * 4)).off + 2, none⟩ = some (.int .i64 ((rd_T39 t333 x13_2).f1.f1)) ∧ w'.cell? ⟨(ad368.add ((x13_2).toNat * 4)).block, (ad368.add ((x13_2).toNat * 4)).off + 3, none⟩ = some (.slice (some ad369) ((rd_T39 t333 x13_2).f2).length c368_3) ∧ w'.cell? (ad369.add (((ji89)).toNat * 2)) = some (.int .i64 ((rd_T36 ((rd_T39 t333 x13_2).f2) (ji89)).f0)) ∧ w'.cell? ⟨(ad369.add (((ji89)).toNat * 2)).block, (ad369.add (((ji89)).toNat * 2)).off + 1, none⟩ = some (.int .i64 ((rd_T36 ((rd_T39 t333 x13_2).f2) (ji89)).f1)) ∧ w'.cell? (ad370.add ((x13_2).toNat * 4)) = some (.bool ((rd_T39 t352 x13_2).f0)) ∧ w'.cell? ⟨(ad370.add ((x13_2).toNat * 4)).block, (ad370.add ((x13_2).toNat * 4)).off + 1, none⟩ = some (.int .i64 ((rd_T39 t352 x13_2).f1.f0)) ∧ w'.cell? ⟨(ad370.add ((x13_2).toNat * 4)).block, (ad370.add ((x13_2).toNat * 4)).off + 2, none⟩ = some (.int .i64 ((rd_T39 t352 x13_2).f1.f1)) ∧ w'.cell? ⟨(ad370.add ((x13_2).toNat * 4)).block, (ad370.add ((x13_2).toNat * 4)).off + 3, none⟩ = some (.slice (some ad371) ((rd_T39 t352 x13_2).f2).length c370_3) ∧ w'.cell? (ad371.add ((x14_4).toNat * 2)) = some (.int .i64 ((rd_T36 ((rd_T39 t352 x13_2).f2) x14_4).f0)) ∧ w'.cell? ⟨(ad371.add ((x14_4).toNat * 2)).block, (ad371.add ((x14_4).toNat * 2)).off + 1, none⟩ = some (.int .i64 ((rd_T36 ((rd_T39 t352 x13_2).f2) x14_4).f1)) ∧ w'.cell? (ad368.add ((x13_2).toNat * 4)) = some (.bool ((rd_T39 t333 x13_2).f0)) ∧ w'.cell? ⟨(ad368.add ((x13_2).toNat * 4)).block, (ad368.add ((x13_2).toNat * 4)).off + 1, none⟩ = some (.int .i64 ((rd_T39 t333 x13_2).f1.f0)) ∧ w'.cell? ⟨(ad368.add ((x13_2).toNat * 4)).block, (ad368.add ((x13_2).toNat * 4)).off + 2, none⟩ = some (.int .i64 ((rd_T39 t333 x13_2).f1.f1)) ∧ w'.cell? ⟨(ad368.add ((x13_2).toNat * 4)).block, (ad368.add ((x13_2).toNat * 4)).off + 3, none⟩ = some (.slice (some ad369) ((rd_T39 t333 x13_2).f2).length c368_3) ∧ w'.cell? (ad369.add ((x14_4).toNat * 2)) = some (.int .i64 ((rd_T36 ((rd_T39 t333 x13_2).f2) x14_4).f0)) ∧ w'.cell? ⟨(ad369.add ((x14_4).toNat * 2)).block, (ad369.add ((x14_4).toNat * 2)).off + 1, none⟩ = some (.int .i64 ((rd_T36 ((rd_T39 t333 x13_2).f2) x14_4).f1))) (ds := []) #[false, false, false, false, false, false, false, false, false, false, false, false, false, false, false, false, false, false, false, false, false, false, false, false, false, false, false, false, false, false, false, false, false, false, false, false, false, false, false, false, false] (by kernel_rfl) rfl rfl ⟨hx366_0, hx366_1, hx366_2, hx366_3, hx367_0, hx367_1, hx368_0, hx368_1, hx368_2, hx368_3, hx369_0, hx369_1, hx370_0, hx370_1, hx370_2, hx370_3, hx371_0, hx371_1, hx372_0, hx372_1, hx372_2, hx372_3, hx373_0, hx373_1⟩ (fun hHeld => ?_); refine with_tabW sennitlaw05_AlignTurns.tab19 sennitlaw05_AlignTurns.bits19 (fun HT_ HW_ => ?_)
                                   generalize wr.drew = w102 at HO_1 HO_10 HO_11 HO_12 HB HL366_3 HL368_3 HL370_3 HL372_3 HR366_3 HR368_3 HR370_3 HR372_3 hx366_0 hx366_1 hx366_2 hx366_3 hx367_0 hx367_1 hx368_0 hx368_1 hx368_2 hx368_3 hx369_0 hx369_1 hx370_0 hx370_1 hx370_2 hx370_3 hx371_0 hx371_1 hx372_0 hx372_1 hx372_2 hx372_3 hx373_0 hx373_1 hHeld ⊢
                                   refine pN HT_.out 0 160 ?_
                                   refine pN HT_.out 1 161 ?_
                                   refine pN HT_.out 2 162 ?_
                                   refine pN HT_.out 3 163 ?_
                                   refine pN HT_.out 5 165 ?_
                                   refine pN HT_.out 8 168 ?_
                                   refine pN HT_.out 9 169 ?_
                                   refine pN HT_.out 10 170 ?_
                                   refine pN HT_.out 11 171 ?_
                                   refine pN HT_.out 13 173 ?_
                                   refine pN HT_.out 14 174 ?_
                                   refine pN HT_.out 15 175 ?_
                                   refine pN HT_.out 16 176 ?_
                                   refine pN HT_.out 17 177 ?_
                                   refine pN HT_.out 18 178 ?_
                                   refine take_ (i := 4) (N := some 164) (v := ?_) (a' := ?_) #[true, true, true, true, true, true, false, false, true, true, true, true, false, true, true, true, true, true, true, false, false, false, false, false, false, false, false, false, false, false, false, false, false, false, false, false, false, false, false, false, false] rfl rfl (take_ofW HT_.out HW_.out (by kernel_rfl)) (fun _ _ _ h => h) (Or.inl ⟨by rfl, ?_⟩) hHeld ?_ ?_
                                   rotate_left
                                   ·rintro w' ⟨s0, s1, s2, s3, s4, s5, s6, s7, s8, s9, s10, s11, s12, s13, s14, s15, s16, s17, s18, s19, s20, s21, s22, s23⟩
                                    go_simp
                                    with_reducible rfl
                                   rotate_left
                                   ·simp only [Act.put, List.setIfInBounds_toArray, List.set_cons_zero, List.set_cons_succ, i64_w, i32_w]
                                    rfl
                                   refine pN HT_.out 6 166 ?_
                                   refine take_ (i := 7) (N := some 167) (v := ?_) (a' := ?_) #[true, true, true, true, true, true, true, true, true, true, true, true, false, true, true, true, true, true, true, false, false, false, false, false, false, false, false, false, false, false, false, false, false, false, false, false, false, false, false, false, false] rfl rfl (take_ofW HT_.out HW_.out (by kernel_rfl)) (fun _ _ _ h => h) (Or.inl ⟨by rfl, ?_⟩) hHeld ?_ ?_
                                   rotate_left
                                   ·rintro w' ⟨s0, s1, s2, s3, s4, s5, s6, s7, s8, s9, s10, s11, s12, s13, s14, s15, s16, s17, s18, s19, s20, s21, s22, s23⟩
                                    go_simp
                                    with_reducible rfl
                                   rotate_left
                                   ·simp only [Act.put, List.setIfInBounds_toArray, List.set_cons_zero, List.set_cons_succ, i64_w, i32_w]
                                    rfl
                                   refine take_ (i := 12) (N := some 172) (v := ?_) (a' := ?_) #[true, true, true, true, true, true, true, true, true, true, true, true, true, true, true, true, true, true, true, false, false, false, false, false, false, false, false, false, false, false, false, false, false, false, false, false, false, false, false, false, false] rfl rfl (take_ofW HT_.out HW_.out (by kernel_rfl)) (fun _ _ _ h => h) (Or.inl ⟨by rfl, ?_⟩) hHeld ?_ ?_
                                   rotate_left
                                   ·rintro w' ⟨s0, s1, s2, s3, s4, s5, s6, s7, s8, s9, s10, s11, s12, s13, s14, s15, s16, s17, s18, s19, s20, s21, s22, s23⟩
                                    go_simp
                                    with_reducible rfl
                                   rotate_left
                                   ·simp only [Act.put, List.setIfInBounds_toArray, List.set_cons_zero, List.set_cons_succ, i64_w, i32_w]
                                    rfl
                                   refine pN HT_.out 19 179 ?_
                                   refine take_ (i := 20) (N := some 180) (v := ?_) (a' := ?_) #[true, true, true, true, true, true, true, true, true, true, true, true, true, true, true, true, true, true, true, true, true, false, false, false, false, false, false, false, false, false, false, false, false, false, false, false, false, false, false, false, false] rfl rfl (take_ofW HT_.out HW_.out (by kernel_rfl)) (fun _ _ _ h => h) (Or.inl ⟨by rfl, ?_⟩) hHeld ?_ ?_
                                   rotate_left
                                   ·rintro w' ⟨s0, s1, s2, s3, s4, s5, s6, s7, s8, s9, s10, s11, s12, s13, s14, s15, s16, s17, s18, s19, s20, s21, s22, s23⟩
                                    go_simp
                                    with_reducible rfl
                                   rotate_left
                                   ·simp only [Act.put, List.setIfInBounds_toArray, List.set_cons_zero, List.set_cons_succ, i64_w, i32_w]
                                    rfl
                                   refine pN HT_.out 21 181 ?_
                                   refine pN HT_.out 22 182 ?_
                                   refine pN HT_.out 23 183 ?_
                                   refine pN HT_.out 24 184 ?_
                                   refine pN HT_.out 25 185 ?_
                                   refine pN HT_.out 26 186 ?_
                                   refine pN HT_.out 28 188 ?_
                                   refine pN HT_.out 31 191 ?_
                                   refine pN HT_.out 32 192 ?_
                                   refine pN HT_.out 33 193 ?_
                                   refine pN HT_.out 34 194 ?_
                                   refine pN HT_.out 36 196 ?_
                                   refine take_ (i := 27) (N := some 187) (v := ?_) (a' := ?_) #[true, true, true, true, true, true, true, true, true, true, true, true, true, true, true, true, true, true, true, true, true, true, true, true, true, true, true, true, true, false, false, true, true, true, true, false, true, false, false, false, false] rfl rfl (take_ofW HT_.out HW_.out (by kernel_rfl)) (fun _ _ _ h => h) (Or.inl ⟨by rfl, ?_⟩) hHeld ?_ ?_
                                   rotate_left
                                   ·rintro w' ⟨s0, s1, s2, s3, s4, s5, s6, s7, s8, s9, s10, s11, s12, s13, s14, s15, s16, s17, s18, s19, s20, s21, s22, s23⟩
                                    go_simp
                                    with_reducible rfl
                                   rotate_left
                                   ·simp only [Act.put, List.setIfInBounds_toArray, List.set_cons_zero, List.set_cons_succ, i64_w, i32_w]
                                    rfl
                                   refine pN HT_.out 29 189 ?_
                                   refine take_ (i := 30) (N := some 190) (v := ?_) (a' := ?_) #[true, true, true, true, true, true, true, true, true, true, true, true, true, true, true, true, true, true, true, true, true, true, true, true, true, true, true, true, true, true, true, true, true, true, true, false, true, false, false, false, false] rfl rfl (take_ofW HT_.out HW_.out (by kernel_rfl)) (fun _ _ _ h => h) (Or.inl ⟨by rfl, ?_⟩) hHeld ?_ ?_
                                   rotate_left
                                   ·rintro w' ⟨s0, s1, s2, s3, s4, s5, s6, s7, s8, s9, s10, s11, s12, s13, s14, s15, s16, s17, s18, s19, s20, s21, s22, s23⟩
                                    go_simp
                                    with_reducible rfl
                                   rotate_left
                                   ·simp only [Act.put, List.setIfInBounds_toArray, List.set_cons_zero, List.set_cons_succ, i64_w, i32_w]
                                    rfl
                                   refine take_ (i := 35) (N := some 195) (v := ?_) (a' := ?_) #[true, true, true, true, true, true, true, true, true, true, true, true, true, true, true, true, true, true, true, true, true, true, true, true, true, true, true, true, true, true, true, true, true, true, true, true, true, false, false, false, false] rfl rfl (take_ofW HT_.out HW_.out (by kernel_rfl)) (fun _ _ _ h => h) (Or.inl ⟨by rfl, ?_⟩) hHeld ?_ ?_
                                   rotate_left
                                   ·rintro w' ⟨s0, s1, s2, s3, s4, s5, s6, s7, s8, s9, s10, s11, s12, s13, s14, s15, s16, s17, s18, s19, s20, s21, s22, s23⟩
                                    go_simp
                                    with_reducible rfl
                                   rotate_left
                                   ·simp only [Act.put, List.setIfInBounds_toArray, List.set_cons_zero, List.set_cons_succ, i64_w, i32_w]
                                    rfl
                                   refine pN HT_.out 37 197 ?_
                                   refine take_ (i := 38) (N := some 198) (v := ?_) (a' := ?_) #[true, true, true, true, true, true, true, true, true, true, true, true, true, true, true, true, true, true, true, true, true, true, true, true, true, true, true, true, true, true, true, true, true, true, true, true, true, true, true, false, false] rfl rfl (take_ofW HT_.out HW_.out (by kernel_rfl)) (fun _ _ _ h => h) (Or.inl ⟨by rfl, ?_⟩) hHeld ?_ ?_
                                   rotate_left
                                   ·rintro w' ⟨s0, s1, s2, s3, s4, s5, s6, s7, s8, s9, s10, s11, s12, s13, s14, s15, s16, s17, s18, s19, s20, s21, s22, s23⟩
                                    go_simp
                                    with_reducible rfl
                                   rotate_left
                                   ·simp only [Act.put, List.setIfInBounds_toArray, List.set_cons_zero, List.set_cons_succ, i64_w, i32_w]
                                    rfl
                                   refine pN HT_.out 39 199 ?_
                                   refine pN HT_.out 40 200 ?_
                                   refine done_ (done_of HT_.out (by kernel_rfl)) ?_
                                   try go_wp2
                                   go_roundg k4
                                   case measure => have := HJ20.out; have := HK2.out; have := HJ51.out; have := HK4.out; omega
                                   case rel => exact ⟨(wrap64 (x14_4 + 1)), (by first | rfl | (simp; done) | (simp [*]; done)), H', ⟨by have := HJ20.out; have := HK2.out; have := HJ51.out; have := HK4.out; omega⟩, ⟨by (with_reducible repeat (first | apply vA | apply vN | apply vD)); exact HO_1.out⟩, ⟨by (with_reducible repeat (first | apply nA | apply nN | apply nD)); exact HO_10.out⟩, ⟨by (with_reducible repeat (first | apply nA | apply nN | apply nD)); exact HO_11.out⟩, ⟨by (with_reducible repeat (first | apply nA | apply nN | apply nD)); exact HO_12.out⟩, ⟨by repeat (with_reducible first | exact HB.out | apply bA | apply bN | apply bD)⟩⟩
                                 ·rw [if_neg c97] at H
                                  exact absurd H (by simp)
                                ·rw [if_neg c96] at H
                                 exact absurd H (by simp)
                               ·rw [if_neg c95] at H
                                exact absurd H (by simp)
                             ·rw [if_neg c91] at H
                              exact absurd H (by simp)
                            ·rw [if_neg c90] at H
                             exact absurd H (by simp)
                          ·rw [if_neg c87] at H
                           exact absurd H (by simp)
                         ·rw [if_neg c86] at H
                          exact absurd H (by simp)
                        ·rw [if_neg c85] at H
                         exact absurd H (by simp)
                       ·rw [if_neg c84] at H
                        exact absurd H (by simp)
                      ·rw [if_neg c83] at H
                       exact absurd H (by simp)
                     ·rw [if_neg c82] at H
                      have c82b0 : decide (x14_4 < (l1.length : Int)) = false := decide_eq_false c82
                      clear c82
                      have H' := am H
                      clear H
                      go_wp2
                      go_roundg k4
                      case measure => have := HJ20.out; have := HK2.out; have := HJ51.out; have := HK4.out; omega
                      case rel => exact ⟨(wrap64 (x13_2 + 1)), (by first | rfl | (simp; done) | (simp [*]; done)), H', ⟨by have := HJ20.out; have := HK2.out; have := HJ51.out; have := HK4.out; omega⟩, ⟨by (with_reducible repeat (first | apply vA | apply vN | apply vD)); exact HO_1.out⟩, ⟨by (with_reducible repeat (first | apply nA | apply nN | apply nD)); exact HO_10.out⟩, ⟨by (with_reducible repeat (first | apply nA | apply nN | apply nD)); exact HO_11.out⟩, ⟨by (with_reducible repeat (first | apply nA | apply nN | apply nD)); exact HO_12.out⟩, ⟨by repeat (with_reducible first | exact HB.out | apply bA | apply bN | apply bD)⟩⟩
               ·rw [if_neg c51] at H
                have c51b0 : decide (x13_2 < (t333.length : Int)) = false := decide_eq_false c51
                clear c51
                obtain rfl := Option.some.inj H
                obtain ⟨Ao_, co_, rfl⟩ := Kd.N_slice HO_10.out
                go_wp2
                repeat (go_quiet (fail); try go_wp2)
                go_ret
                exact ⟨by first | rfl | (simp [errW_none, errW_some] <;> rfl) | (simp [*, errW_none, errW_some] <;> rfl), by repeat (with_reducible first | exact HB.out | apply bA | apply bN | apply bD)⟩
         ·rw [if_neg c19] at H
          exact absurd H (by simp)
        ·rw [if_neg c18] at H
         exact absurd H (by simp)
       ·rw [if_neg c17] at H
        exact absurd H (by simp)
      ·rw [if_neg c14] at H
       exact absurd H (by simp)
     ·rw [if_neg c11] at H
      exact absurd H (by simp)
    ·rw [if_neg c10] at H
     exact absurd H (by simp)
   ·rw [if_neg c9] at H
    exact absurd H (by simp)
 ·replace c6 := Bool.eq_false_iff.mpr c6
  subst c6
  have H1 : (some t312) = some r := by rw [if_neg (show ¬ (false = true) by decide)] at H; exact H
  clear H
  have H := H1
  clear H1
  obtain rfl := Option.some.inj H
  go_enter Try.func6, Try.ntmps6
  go_wp2_with (first | ((with_reducible refine gate_callee (f := 14) rfl ?_); refine goesL_ (some 15) rfl rfl Try.func14 (by kernel_rfl) rfl #[] rfl (by (try simp only [List.map_toArray, List.map_cons, List.map_nil]); first | done | rfl | (simp only [List.length_drop, List.length_take]; rfl)) ?_; (with_reducible refine (sennitlaw05_awake.calls k  t312 _ A4.out).mono ?_); rintro e w106 ⟨rfl, hb⟩; refine ⟨_, rfl, ?_⟩; have n0_ := am (Kd.V_below (by (with_reducible repeat (first | apply vA | apply vN | apply vD)); exact HO1.out) hb); have n1_ := am (below_step (by repeat (with_reducible first | exact HB.out | apply bA | apply bN | apply bD)) hb); clear HO1; clear HB; have HO1 := n0_; have HB := n1_; clear n0_ n1_; (try clear hb); (try clear hb2); (try clear hk); (try clear hi)) | ((with_reducible refine gate_callee (f := 15) rfl ?_); refine goesL_ (some 18) rfl rfl Try.func15 (by kernel_rfl) rfl #[.slice A0 l0.length c0, .slice A1 l1.length c1] rfl (by (try simp only [List.map_toArray, List.map_cons, List.map_nil]); first | done | rfl | (simp only [List.length_drop, List.length_take]; rfl)) ?_; (with_reducible refine (sennitref05_Few.calls k _ _ l0 _ _ l1 false _ ?side1 ?side2 ?side3 ?side4 A5.out).mono ?_); (case side1 => repeat (first | exact (Kd.C_below HR0.out HB.out) | (with_reducible refine Kd.C_alloc ?_ _) | (with_reducible refine Kd.C_drewN ?_ _) | (with_reducible refine Kd.C_drew ?_))); (case side2 => exact HC0.out); (case side3 => repeat (first | exact (Kd.V_reads' HO1.out).2.2 | (with_reducible refine Kd.C_alloc ?_ _) | (with_reducible refine Kd.C_drewN ?_ _) | (with_reducible refine Kd.C_drew ?_))); (case side4 => exact (Kd.V_reads' HO1.out).2.1); rintro e w' ⟨rfl, ⟨nd, rfl⟩⟩; refine ⟨_, rfl, ?_⟩))
  go_ret
  exact ⟨by first | rfl | (simp [errW_none, errW_some] <;> rfl) | (simp [*, errW_none, errW_some] <;> rfl), by repeat (with_reducible first | exact HB.out | apply bA | apply bN | apply bD)⟩

end Go.Proofs.Ytnebadlakmlkkaa.M
namespace Go.Proofs.Ytnebadlakmlkkaa.Pure
open Go.RowKit Go.Proofs.Ytnebadlakmlkkaa.M Go.Proofs.Ytnebadlakmlkkaa.Hand Go.Proofs.YtnebadlakmlkkaaW.PrintWords Go.Proofs.YtnebadlakmlkkaaW.PrintLast Go.Proofs.YtnebadlakmlkkaaW.PrintMore
set_option linter.unusedVariables false
/-- The number that match i gives to place k. -/
def mm (M : List (List Int)) (i k : Nat) : Int := (M.getD i []).getD k 0
/-- What matches must be. -/
structure OkM (M : List (List Int)) (m : Nat) (sizes : List Int) : Prop where
  len : M.length = sizes.length
  pos : 1 ≤ M.length
  row : ∀ i < M.length, (M.getD i []).length = m
  low : ∀ i < M.length, ∀ k < m, -1 ≤ mm M i k
  high : ∀ i < M.length, ∀ k < m, mm M i k < sizes.getD i 0
  nat : ∀ i < M.length, 0 ≤ sizes.getD i 0
  inc : ∀ i < M.length, ∀ j k, j < k → k < m → 0 ≤ mm M i j → 0 ≤ mm M i k → mm M i j < mm M i k

theorem getD_mem {α : Type} (M : List α) (d : α) (i : Nat) (h : i < M.length) : M.getD i d ∈ M := by
  rw [List.getD_eq_getElem?_getD, List.getElem?_eq_getElem h]
  exact List.getElem_mem h
theorem mem_getD {α : Type} (M : List α) (d : α) (x : α) (h : x ∈ M) : ∃ i, i < M.length ∧ M.getD i d = x := by
  obtain ⟨i, hi, e⟩ := List.getElem_of_mem h
  exact ⟨i, hi, by rw [List.getD_eq_getElem?_getD, List.getElem?_eq_getElem hi, ← e]; rfl⟩
theorem ext_getD {α : Type} (d : α) (a b : List α) (hl : a.length = b.length) (h : ∀ i < a.length, a.getD i d = b.getD i d) : a = b := by
  refine List.ext_getElem hl fun i h1 h2 => ?_
  have := h i h1
  rwa [List.getD_eq_getElem?_getD, List.getD_eq_getElem?_getD, List.getElem?_eq_getElem h1, List.getElem?_eq_getElem h2] at this
theorem map_getD {α β : Type} (f : α → β) (d : α) (e : β) (l : List α) (i : Nat) (h : i < l.length) : (l.map f).getD i e = f (l.getD i d) := by
  rw [List.getD_eq_getElem?_getD, List.getD_eq_getElem?_getD, List.getElem?_map, List.getElem?_eq_getElem h]
  rfl
theorem stab_iff (M : List (List Int)) (k : Nat) : stabB M k = true ↔ ∀ i < M.length, 0 ≤ mm M i k := by
  simp only [stabB, List.all_eq_true, Bool.not_eq_true', decide_eq_false_iff_not]
  constructor
  · intro h i hi
    have := h _ (getD_mem M [] i hi)
    unfold mm
    omega
  · intro h l hl
    obtain ⟨i, hi, rfl⟩ := mem_getD M [] l hl
    have := h i hi
    unfold mm at this
    omega
theorem cont_iff (M : List (List Int)) (k : Nat) : contB M k = true ↔ ∀ i < M.length, 0 ≤ mm M i k ∧ mm M i k = mm M i (k - 1) + 1 := by
  simp only [contB, List.all_eq_true, Bool.and_eq_true, Bool.not_eq_true', decide_eq_false_iff_not, decide_eq_true_eq]
  constructor
  · intro h i hi
    have := h _ (getD_mem M [] i hi)
    unfold mm
    omega
  · intro h l hl
    obtain ⟨i, hi, rfl⟩ := mem_getD M [] l hl
    have := h i hi
    unfold mm at this
    omega
theorem atG_get (M : List (List Int)) (k : Nat) (more : Int) (i : Nat) (h : i < M.length) : (atG M k more).getD i 0 = mm M i k + more := by
  unfold atG mm
  rw [map_getD _ [] 0 M i h]
theorem spans_len (a b : List Int) (h : a.length = b.length) : (spans a b).length = a.length := by simp [spans, h]
theorem spans_get (a b : List Int) (i : Nat) (h : i < a.length) (h' : i < b.length) : (spans a b).getD i z36 = ⟨a.getD i 0, b.getD i 0⟩ := by
  unfold spans
  simp [List.getD_eq_getElem?_getD, List.getElem?_zipWith, List.getElem?_eq_getElem h, List.getElem?_eq_getElem h']
theorem some_iff (b b' : Int) (a a' : List Int) (h : a.length = a'.length) : someB b b' a a' = true ↔ (b < b' ∨ ∃ i, i < a.length ∧ a.getD i 0 < a'.getD i 0) := by
  simp only [someB, Bool.or_eq_true, decide_eq_true_eq, List.any_eq_true]
  refine or_congr Iff.rfl ⟨?_, ?_⟩
  · rintro ⟨p, hp, hlt⟩
    obtain ⟨i, hi, e⟩ := List.getElem_of_mem hp
    rw [List.length_zip] at hi
    refine ⟨i, by omega, ?_⟩
    rw [List.getElem_zip] at e
    subst e
    simp only [List.getD_eq_getElem?_getD, List.getElem?_eq_getElem (show i < a.length by omega), List.getElem?_eq_getElem (show i < a'.length by omega), Option.getD_some]
    exact hlt
  · rintro ⟨i, hi, hlt⟩
    simp only [List.getD_eq_getElem?_getD, List.getElem?_eq_getElem (show i < a.length by omega), List.getElem?_eq_getElem (show i < a'.length by omega), Option.getD_some] at hlt
    exact ⟨(a[i], a'[i]), by rw [← List.getElem_zip (h := by rw [List.length_zip]; omega)]; exact List.getElem_mem _, hlt⟩
def tos (c : S39) : List Int := c.f2.map (fun s => s.f1)
theorem tos_get (c : S39) (i : Nat) (h : i < c.f2.length) : (tos c).getD i 0 = (c.f2.getD i z36).f1 := map_getD _ z36 0 _ _ h
theorem tos_len (c : S39) : (tos c).length = c.f2.length := by simp [tos]

/-- A chunk that may follow where base place b, and sides' places a, are reached. -/
structure Ok1 (M : List (List Int)) (b : Int) (a : List Int) (c : S39) : Prop where
  hb : c.f1.f0 = b
  hlen : c.f2.length = a.length
  hf : ∀ i < a.length, (c.f2.getD i z36).f0 = a.getD i 0
  hle : b ≤ c.f1.f1
  hsl : ∀ i < a.length, a.getD i 0 ≤ (c.f2.getD i z36).f1
  hne : b < c.f1.f1 ∨ ∃ i, i < a.length ∧ a.getD i 0 < (c.f2.getD i z36).f1
  hst : c.f0 = true → ∀ i < a.length, (c.f2.getD i z36).f1 - a.getD i 0 = c.f1.f1 - b
  hk : ∀ k : Nat, b ≤ k → (k : Int) < c.f1.f1 → stabB M k = c.f0 ∧ (c.f0 = true → ∀ i < a.length, mm M i k = a.getD i 0 + k - b)
/-- A list of chunks that leads from there to the end. -/
def Fits (M : List (List Int)) (m : Nat) (sizes : List Int) : Int → List Int → Option Bool → List S39 → Prop
  | b, a, _, [] => b = m ∧ a = sizes
  | b, a, p, c :: t => Ok1 M b a c ∧ p ≠ some c.f0 ∧ Fits M m sizes c.f1.f1 (tos c) (some c.f0) t

theorem fits_end {M : List (List Int)} {m : Nat} {sizes : List Int} : ∀ (l : List S39) (b : Int) (a : List Int) (p : Option Bool), Fits M m sizes b a p l → b ≤ m ∧ a.length = sizes.length ∧ ∀ i < a.length, a.getD i 0 ≤ sizes.getD i 0
  | [], b, a, p, h => by
    obtain ⟨rfl, rfl⟩ := h
    exact ⟨Int.le_refl _, rfl, fun _ _ => Int.le_refl _⟩
  | c :: t, b, a, p, h => by
    obtain ⟨h1, _, h2⟩ := h
    obtain ⟨q1, q2, q3⟩ := fits_end t _ _ _ h2
    rw [tos_len, h1.hlen] at q2
    refine ⟨Int.le_trans h1.hle q1, q2, fun i hi => ?_⟩
    have := q3 i (by rw [tos_len, h1.hlen]; exact hi)
    rw [tos_get _ _ (by rw [h1.hlen]; exact hi)] at this
    exact Int.le_trans (h1.hsl i hi) this
/-- A stable chunk is not empty of base places. -/
theorem ok_base {M : List (List Int)} {b : Int} {a : List Int} {c : S39} (h : Ok1 M b a c) (hs : c.f0 = true) : b < c.f1.f1 := by
  rcases h.hne with h1 | ⟨i, hi, h1⟩
  · exact h1
  · have := h.hst hs i hi
    omega
/-- What stands at the first place of a list: from b on. -/
theorem head_stab {M : List (List Int)} {m : Nat} {sizes : List Int} {b : Nat} {a : List Int} {p : Option Bool} {l : List S39} (h : Fits M m sizes b a p l) (hp : p = some false) (hm : (b : Int) < m) :
    stabB M b = true ∧ ∀ i < a.length, mm M i b = a.getD i 0 := by
  match l, h with
  | [], h => obtain ⟨hb, _⟩ := h; omega
  | c :: t, ⟨h1, h2, h3⟩ =>
    have hc : c.f0 = true := by subst hp; cases hc : c.f0 <;> simp_all
    have hk := h1.hk b (Int.le_refl _) (ok_base h1 hc)
    refine ⟨hk.1.trans hc, fun i hi => ?_⟩
    have := hk.2 hc i hi
    omega
/-- Behind a stable chunk: the next place is not stable, or else some side goes on elsewhere. -/
theorem head_not {M : List (List Int)} {m : Nat} {sizes : List Int} {b : Nat} {a : List Int} {p : Option Bool} {l : List S39} (h : Fits M m sizes b a p l) (hp : p = some true) (hm : (b : Int) < m) (hs : stabB M b = true) :
    ¬ ∀ i < a.length, mm M i b = a.getD i 0 := by
  match l, h with
  | [], h => obtain ⟨hb, _⟩ := h; omega
  | c :: t, ⟨h1, h2, h3⟩ =>
    have hc : c.f0 = false := by subst hp; cases hc : c.f0 <;> simp_all
    intro hall
    by_cases hb : (b : Int) < c.f1.f1
    · have hk := h1.hk b (Int.le_refl _) hb
      rw [hc, hs] at hk
      exact absurd hk.1 (by decide)
    · have he : c.f1.f1 = b := by have := h1.hle; omega
      rw [he, hc] at h3
      have := head_stab h3 rfl hm
      rcases h1.hne with h4 | ⟨i, hi, h4⟩
      · omega
      · have h5 := this.2 i (by rw [tos_len, h1.hlen]; exact hi)
        rw [tos_get _ _ (by rw [h1.hlen]; exact hi), hall i hi] at h5
        omega
/-- THE COARSEST: there is one such list. -/
theorem fits_uniq {M : List (List Int)} {m : Nat} {sizes : List Int} : ∀ (l l' : List S39) (b : Nat) (a : List Int) (p p' : Option Bool), Fits M m sizes b a p l → Fits M m sizes b a p' l' → l = l'
  | [], [], _, _, _, _, _, _ => rfl
  | [], c :: t, b, a, p, p', h, h' => by
    obtain ⟨hb, rfl⟩ := h
    obtain ⟨h1, _, h2⟩ := h'
    obtain ⟨q1, q2, q3⟩ := fits_end t _ _ _ h2
    rcases h1.hne with h3 | ⟨i, hi, h3⟩
    · omega
    · have := q3 i (by rw [tos_len, h1.hlen]; exact hi)
      rw [tos_get _ _ (by rw [h1.hlen]; exact hi)] at this
      omega
  | c :: t, [], b, a, p, p', h', h => by
    obtain ⟨hb, rfl⟩ := h
    obtain ⟨h1, _, h2⟩ := h'
    obtain ⟨q1, q2, q3⟩ := fits_end t _ _ _ h2
    rcases h1.hne with h3 | ⟨i, hi, h3⟩
    · omega
    · have := q3 i (by rw [tos_len, h1.hlen]; exact hi)
      rw [tos_get _ _ (by rw [h1.hlen]; exact hi)] at this
      omega
  | c :: t, c' :: t', b, a, p, p', h, h' => by
    obtain ⟨h1, h2, h3⟩ := h
    obtain ⟨h1', h2', h3'⟩ := h'
    have e1 := (fits_end t _ _ _ h3).1
    have e1' := (fits_end t' _ _ _ h3').1
    obtain ⟨e, he⟩ : ∃ e : Nat, c.f1.f1 = e := ⟨c.f1.f1.toNat, by have := h1.hle; omega⟩
    obtain ⟨e', he'⟩ : ∃ e' : Nat, c'.f1.f1 = e' := ⟨c'.f1.f1.toNat, by have := h1'.hle; omega⟩
    -- one that is stable, and one that isn't
    have key : ∀ (c c' : S39) (t' : List S39) (e e' : Nat), Ok1 M b a c → Ok1 M b a c' → Fits M m sizes c'.f1.f1 (tos c') (some c'.f0) t' → c.f1.f1 = e → c'.f1.f1 = e' → e ≤ m → c.f0 = true → c'.f0 = false → False := by
      intro c c' t' e e' g1 g1' g3' he he' em hc hc'
      have hb := ok_base g1 hc
      have hk := g1.hk b (Int.le_refl _) hb
      by_cases hb' : (b : Int) < c'.f1.f1
      · have := (g1'.hk b (Int.le_refl _) hb').1
        rw [hc', hk.1, hc] at this
        exact absurd this (by decide)
      · have hee : c'.f1.f1 = b := by have := g1'.hle; omega
        rw [hee, hc'] at g3'
        have hh := head_stab g3' rfl (by omega)
        rcases g1'.hne with h4 | ⟨i, hi, h4⟩
        · omega
        · have h5 := hh.2 i (by rw [tos_len, g1'.hlen]; exact hi)
          rw [tos_get _ _ (by rw [g1'.hlen]; exact hi)] at h5
          have := hk.2 hc i hi
          omega
    have hflag : c.f0 = c'.f0 := by
      cases hc : c.f0 <;> cases hc' : c'.f0 <;> try rfl
      · exact (key c' c t e' e h1' h1 h3 he' he (by omega) hc' hc).elim
      · exact (key c c' t' e e' h1 h1' h3' he he' (by omega) hc hc').elim
    -- the shorter one of two
    have short : ∀ (c c' : S39) (t : List S39) (e e' : Nat), Ok1 M b a c → Ok1 M b a c' → Fits M m sizes c.f1.f1 (tos c) (some c.f0) t → c.f1.f1 = e → c'.f1.f1 = e' → e' ≤ m → c.f0 = c'.f0 → ¬ e < e' := by
      intro c c' t e e' g1 g1' g3 he he' em hcc hlt
      have hk := g1'.hk e (by have := g1.hle; omega) (by omega)
      rw [he] at g3
      cases hc : c.f0 with
      | true =>
        rw [hc] at g3
        refine head_not g3 rfl (by omega) (by rw [hk.1, ← hcc, hc]) fun i hi => ?_
        rw [tos_len] at hi
        rw [tos_get _ _ hi]
        rw [g1.hlen] at hi
        have q1 := hk.2 (by rw [← hcc, hc]) i hi
        have q2 := g1.hst hc i hi
        omega
      | false =>
        rw [hc] at g3
        have := (head_stab g3 rfl (by omega)).1
        rw [hk.1, ← hcc, hc] at this
        exact absurd this (by decide)
    have hee : e = e' := by
      have q1 := short c c' t e e' h1 h1' h3 he he' (by omega) hflag
      have q2 := short c' c t' e' e h1' h1 h3' he' he (by omega) hflag.symm
      omega
    subst hee
    have hl : c.f2.length = c'.f2.length := h1.hlen.trans h1'.hlen.symm
    have hto : ∀ i < a.length, (c.f2.getD i z36).f1 = (c'.f2.getD i z36).f1 := by
      intro i hi
      cases hc : c.f0 with
      | true =>
        have q1 := h1.hst hc i hi
        have q2 := h1'.hst (by rw [← hflag, hc]) i hi
        omega
      | false =>
        have hc' : c'.f0 = false := by rw [← hflag, hc]
        rw [he, hc] at h3
        rw [he', hc'] at h3'
        have i1 : i < (tos c).length := by rw [tos_len, h1.hlen]; exact hi
        have i2 : i < (tos c').length := by rw [tos_len, h1'.hlen]; exact hi
        rw [← tos_get _ _ (by rw [h1.hlen]; exact hi), ← tos_get _ _ (by rw [h1'.hlen]; exact hi)]
        by_cases hem : (e : Int) < m
        · rw [← (head_stab h3 rfl hem).2 i i1, ← (head_stab h3' rfl hem).2 i i2]
        · have last : ∀ (u : List S39) (x : S39), Fits M m sizes e (tos x) (some false) u → tos x = sizes := by
            intro u x hu
            match u, hu with
            | [], hu => exact hu.2
            | y :: u, ⟨g1, g2, g3⟩ =>
              have hy : y.f0 = true := by cases hy : y.f0 <;> simp_all
              have := ok_base g1 hy
              have := (fits_end u _ _ _ g3).1
              omega
          rw [last t c h3, last t' c' h3']
    have hcc : c = c' := by
      obtain ⟨s, ⟨x, y⟩, f⟩ := c
      obtain ⟨s', ⟨x', y'⟩, f'⟩ := c'
      simp only [S39.mk.injEq, S36.mk.injEq]
      refine ⟨hflag, ⟨h1.hb.trans h1'.hb.symm, he.trans he'.symm⟩, ext_getD z36 _ _ hl fun i hi => ?_⟩
      have hi' : i < a.length := by rw [← h1.hlen]; exact hi
      have q1 := (h1.hf i hi').trans (h1'.hf i hi').symm
      have q2 := hto i hi'
      generalize ha : List.getD f i z36 = u at q1 q2
      generalize hb : List.getD f' i z36 = v at q1 q2
      obtain ⟨u0, u1⟩ := u
      obtain ⟨v0, v1⟩ := v
      simp_all
    subst hcc
    rw [he] at h3 h3'
    rw [fits_uniq t t' e _ _ _ h3 h3']

/-- What leads from the beginning to where b, and a, are reached. -/
def Reach (M : List (List Int)) (m : Nat) (sizes : List Int) (out : List S39) (b : Int) (a : List Int) (p : Option Bool) : Prop :=
  ∀ l, Fits M m sizes b a p l → Fits M m sizes 0 (List.replicate sizes.length 0) none (out ++ l)
theorem reach_snoc {M : List (List Int)} {m : Nat} {sizes : List Int} {out : List S39} {b : Int} {a : List Int} {p : Option Bool} (h : Reach M m sizes out b a p) (c : S39) (hc : Ok1 M b a c) (hp : p ≠ some c.f0) :
    Reach M m sizes (out ++ [c]) c.f1.f1 (tos c) (some c.f0) := fun l hl => by
  rw [List.append_assoc]
  exact h _ ⟨hc, hp, hl⟩
theorem tos_spans (st : Bool) (x : S36) (a b : List Int) (h : a.length = b.length) : tos ⟨st, x, spans a b⟩ = b := by
  refine ext_getD 0 _ _ (by rw [tos_len]; show (spans a b).length = _; rw [spans_len _ _ h, h]) fun i hi => ?_
  rw [tos_get _ _ (by simpa [tos] using hi)]
  have h1 : i < a.length := by rw [tos_len] at hi; have : (spans a b).length = a.length := spans_len _ _ h; exact this ▸ hi
  show ((spans a b).getD i z36).f1 = _
  rw [spans_get a b i h1 (by omega)]

/-- A cut up to b' and a' (none ahead of where it begins): a chunk, or nothing. -/
theorem cut_step {M : List (List Int)} {m : Nat} {sizes : List Int} {s : CutSt} {b : Nat} {p : Option Bool} (hs : s.base = b) (h : Reach M m sizes s.out b s.at_ p) (st : Bool) (b' : Nat) (a' : List Int) (hl : s.at_.length = a'.length) (hb : b ≤ b')
    (ha : ∀ i < s.at_.length, s.at_.getD i 0 ≤ a'.getD i 0) (hp : p ≠ some st) (hst : st = true → ∀ i < s.at_.length, a'.getD i 0 - s.at_.getD i 0 = b' - b)
    (hk : ∀ k, b ≤ k → k < b' → stabB M k = st ∧ (st = true → ∀ i < s.at_.length, mm M i k = s.at_.getD i 0 + k - b)) :
    (Reach M m sizes (toG s st b' a').out b' a' (some st) ∧ someB s.base b' s.at_ a' = true) ∨ (b' = b ∧ a' = s.at_ ∧ (toG s st b' a').out = s.out) := by
  by_cases hq : someB s.base b' s.at_ a' = true
  · left
    refine ⟨?_, hq⟩
    simp only [toG]
    rw [if_pos hq]
    have hg : ∀ i < s.at_.length, (spans s.at_ a').getD i z36 = ⟨s.at_.getD i 0, a'.getD i 0⟩ := fun i hi => spans_get _ _ i hi (by omega)
    have hok : Ok1 M b s.at_ ⟨st, ⟨s.base, b'⟩, spans s.at_ a'⟩ := by
      refine ⟨(show ((s.base : Nat) : Int) = b by rw [hs]), spans_len _ _ hl, fun i hi => ?_, by show (b : Int) ≤ (b' : Int); omega, fun i hi => ?_, ?_, fun hc i hi => ?_, fun k h1 h2 => ?_⟩
      · show ((spans s.at_ a').getD i z36).f0 = _
        rw [hg i hi]
      · show _ ≤ ((spans s.at_ a').getD i z36).f1
        rw [hg i hi]
        exact ha i hi
      · rw [some_iff _ _ _ _ hl, hs] at hq
        rcases hq with hq | ⟨i, hi, hq⟩
        · exact .inl hq
        · refine .inr ⟨i, hi, ?_⟩
          show _ < ((spans s.at_ a').getD i z36).f1
          rw [hg i hi]
          exact hq
      · show ((spans s.at_ a').getD i z36).f1 - _ = _
        rw [hg i hi]
        exact hst hc i hi
      · exact hk k (by omega) (by have : (k : Int) < b' := h2; omega)
    have := reach_snoc h ⟨st, ⟨s.base, b'⟩, spans s.at_ a'⟩ hok hp
    rw [tos_spans _ _ _ _ hl] at this
    exact this
  · right
    have hn := mt (some_iff s.base b' s.at_ a' hl).2 hq
    have h1 : ¬ ((s.base : Int) < b') := fun h => hn (.inl h)
    refine ⟨by omega, ext_getD 0 _ _ hl.symm fun i hi => ?_, by simp only [toG]; rw [if_neg hq]⟩
    have h2 : ¬ (s.at_.getD i 0 < a'.getD i 0) := fun h => hn (.inr ⟨i, by omega, h⟩)
    have := ha i (by omega)
    omega

theorem run_le (M : List (List Int)) : ∀ d e, e ≤ runF M d e ∧ runF M d e ≤ e + d
  | 0, e => ⟨Nat.le_refl _, Nat.le_refl _⟩
  | d + 1, e => by
    simp only [runF]
    split
    · have := run_le M d (e + 1)
      omega
    · omega
theorem runF_in (M : List (List Int)) : ∀ d e j, e ≤ j → j < runF M d e → contB M j = true
  | 0, e, j, h1, h2 => by simp only [runF] at h2; omega
  | d + 1, e, j, h1, h2 => by
    simp only [runF] at h2
    split at h2
    · rename_i hc
      rcases Nat.lt_or_ge e j with h | h
      · exact runF_in M d (e + 1) j h h2
      · obtain rfl : j = e := by omega
        exact hc
    · omega
theorem run_out (M : List (List Int)) : ∀ d e, runF M d e < e + d → contB M (runF M d e) = false
  | 0, e, h => by simp only [runF] at h; omega
  | d + 1, e, h => by
    simp only [runF] at h ⊢
    split
    · rename_i hc
      rw [if_pos hc] at h
      exact run_out M d (e + 1) (by omega)
    · rename_i hc
      exact Bool.eq_false_iff.2 hc
theorem run_val (M : List (List Int)) (k e : Nat) (h : ∀ j, k + 1 ≤ j → j < e → contB M j = true) (hs : stabB M k = true) : ∀ d, k + d < e → stabB M (k + d) = true ∧ ∀ i < M.length, mm M i (k + d) = mm M i k + d
  | 0, _ => ⟨hs, fun i _ => by simp⟩
  | d + 1, hd => by
    have ih := run_val M k e h hs d (by omega)
    have hc := (cont_iff M (k + (d + 1))).1 (h _ (by omega) hd)
    refine ⟨(stab_iff M _).2 fun i hi => (hc i hi).1, fun i hi => ?_⟩
    have h1 := (hc i hi).2
    rw [show k + (d + 1) - 1 = k + d from by omega, ih.2 i hi] at h1
    rw [h1]
    omega

structure Inv (M : List (List Int)) (m : Nat) (sizes : List Int) (k : Nat) (s : CutSt) : Prop where
  km : k ≤ m
  len : s.at_.length = M.length
  ex : ∃ (b : Nat) (p : Option Bool), s.base = b ∧ b ≤ k ∧ Reach M m sizes s.out b s.at_ p ∧ (∀ j, b ≤ j → j < k → stabB M j = false) ∧
    ((b = 0 ∧ s.at_ = List.replicate sizes.length 0 ∧ p = none) ∨ (p = some true ∧ 0 < b ∧ stabB M (b - 1) = true ∧ s.at_ = atG M (b - 1) 1 ∧ (b < m → contB M b = false)))
theorem inv_skip {M : List (List Int)} {m : Nat} {sizes : List Int} {k : Nat} {s : CutSt} (h : Inv M m sizes k s) (hk : k < m) (hs : ¬ stabB M k = true) : Inv M m sizes (k + 1) s := by
  obtain ⟨h1, h2, b, p, q1, q2, q3, q4, q5⟩ := h
  refine ⟨hk, h2, b, p, q1, by omega, q3, fun j hj hj2 => ?_, q5⟩
  rcases Nat.lt_or_ge j k with h | h
  · exact q4 j hj h
  · obtain rfl : j = k := by omega
    exact Bool.eq_false_iff.2 hs
theorem rep_get (n : Nat) (i : Nat) : (List.replicate n (0 : Int)).getD i 0 = 0 := by
  rw [List.getD_eq_getElem?_getD, List.getElem?_replicate]
  split <;> rfl
theorem toG_base (s : CutSt) (st : Bool) (b : Nat) (a : List Int) : (toG s st b a).base = b := rfl
theorem toG_at (s : CutSt) (st : Bool) (b : Nat) (a : List Int) : (toG s st b a).at_ = a := rfl
theorem inv_run {M : List (List Int)} {m : Nat} {sizes : List Int} (ok : OkM M m sizes) {k : Nat} {s : CutSt} (h : Inv M m sizes k s) (hk : k < m) (hs : stabB M k = true) :
    Inv M m sizes (endG M m k) (toG (toG s false k (atG M k 0)) true (endG M m k) (atG M (endG M m k - 1) 1)) := by
  obtain ⟨h1, h2, b, p, q1, q2, q3, q4, q5⟩ := h
  have hlen : s.at_.length = (atG M k 0).length := by rw [h2, atG_len]
  have hsk := (stab_iff M k).1 hs
  have hat : ∀ i < s.at_.length, s.at_.getD i 0 ≤ (atG M k 0).getD i 0 := by
    intro i hi
    rw [atG_get _ _ _ _ (by omega)]
    have hsi := hsk i (by omega)
    rcases q5 with ⟨rfl, e, _⟩ | ⟨_, hb, hst, e, _⟩
    · rw [e, rep_get]
      omega
    · rw [e, atG_get _ _ _ _ (by omega)]
      have := ok.inc i (by omega) (b - 1) k (by omega) hk ((stab_iff M _).1 hst i (by omega)) hsi
      omega
  have c1 := cut_step q1 q3 false k (atG M k 0) hlen q2 hat (by rcases q5 with ⟨_, _, rfl⟩ | ⟨rfl, _⟩ <;> simp) (by simp) (fun j h1 h2 => ⟨q4 j h1 h2, by simp⟩)
  obtain ⟨p1, hr1, hp1⟩ : ∃ p1, Reach M m sizes (toG s false k (atG M k 0)).out k (atG M k 0) p1 ∧ p1 ≠ some true := by
    rcases c1 with ⟨c1, _⟩ | ⟨rfl, e2, e3⟩
    · exact ⟨_, c1, by simp⟩
    · refine ⟨p, by rw [e3, e2]; exact q3, ?_⟩
      rcases q5 with ⟨_, _, rfl⟩ | ⟨rfl, hb, hst, e, hc⟩
      · simp
      · exfalso
        have hc := hc hk
        rw [(cont_iff M k).2 fun i hi => ⟨hsk i hi, ?_⟩] at hc
        · exact absurd hc (by decide)
        · have := congrArg (fun l => List.getD l i 0) e2
          replace this : (atG M k 0).getD i 0 = s.at_.getD i 0 := this
          rw [e, atG_get _ _ _ _ hi, atG_get _ _ _ _ hi] at this
          omega
  have hrl := run_le M (m - (k + 1)) (k + 1)
  have hri := runF_in M (m - (k + 1)) (k + 1)
  have hro := run_out M (m - (k + 1)) (k + 1)
  have hev : endG M m k = runF M (m - (k + 1)) (k + 1) := rfl
  rw [← hev] at hrl hri hro
  generalize endG M m k = e at hrl hri hro
  have hval := run_val M k e hri hs
  have hlast := hval (e - 1 - k) (by omega)
  rw [show k + (e - 1 - k) = e - 1 from by omega] at hlast
  have c2 := cut_step (s := toG s false k (atG M k 0)) (b := k) (p := p1) rfl hr1 true e (atG M (e - 1) 1) (by rw [toG_at, atG_len, atG_len]) (by omega)
    (fun i hi => by
      rw [toG_at, atG_len] at hi
      rw [toG_at, atG_get _ _ _ _ hi, atG_get _ _ _ _ hi, hlast.2 i hi]
      omega) hp1
    (fun _ i hi => by
      rw [toG_at, atG_len] at hi
      rw [toG_at, atG_get _ _ _ _ hi, atG_get _ _ _ _ hi, hlast.2 i hi]
      omega)
    (fun j h1 h2 => by
      have := hval (j - k) (by omega)
      rw [show k + (j - k) = j from by omega] at this
      refine ⟨this.1, fun _ i hi => ?_⟩
      rw [toG_at, atG_len] at hi
      rw [toG_at, atG_get _ _ _ _ hi, this.2 i hi]
      omega)
  refine ⟨by omega, by rw [toG_at, atG_len], e, some true, rfl, Nat.le_refl _, ?_, fun j h1 h2 => by omega, .inr ⟨rfl, by omega, hlast.1, rfl, fun h => hro (by omega)⟩⟩
  rcases c2 with ⟨c2, _⟩ | ⟨e1, _, _⟩
  · exact c2
  · omega
theorem inv_loop {M : List (List Int)} {m : Nat} {sizes : List Int} (ok : OkM M m sizes) : ∀ (d k : Nat) (s : CutSt), Inv M m sizes k s → m < k + d → Inv M m sizes m (loopA M m d k s)
  | 0, k, s, h, hd => by have := h.km; omega
  | d + 1, k, s, h, hd => by
    simp only [loopA]
    split
    · rename_i hk
      split
      · rename_i hs
        have hrl := run_le M (m - (k + 1)) (k + 1)
        exact inv_loop ok d _ _ (inv_run ok h hk hs) (by unfold endG; omega)
      · rename_i hs
        exact inv_loop ok d _ _ (inv_skip h hk hs) (by omega)
    · have := h.km
      obtain rfl : k = m := by omega
      exact h
/-- What the chunks of matches are. -/
theorem align_fits {M : List (List Int)} {m : Nat} {sizes : List Int} (ok : OkM M m sizes) : Fits M m sizes 0 (List.replicate sizes.length 0) none (alignG M m sizes) := by
  have h0 : Inv M m sizes 0 ⟨0, List.replicate sizes.length 0, []⟩ := ⟨Nat.zero_le _, by simp [ok.len], 0, none, rfl, Nat.le_refl _, fun l hl => hl, fun j _ h => by omega, .inl ⟨rfl, rfl, rfl⟩⟩
  have h := inv_loop ok (m + 1) 0 _ h0 (by omega)
  unfold alignG
  generalize loopA M m (m + 1) 0 ⟨0, List.replicate sizes.length 0, []⟩ = s at h
  obtain ⟨h1, h2, b, p, q1, q2, q3, q4, q5⟩ := h
  have hl : s.at_.length = sizes.length := by rw [h2, ok.len]
  have c := cut_step q1 q3 false m sizes hl q2
    (fun i hi => by
      rcases q5 with ⟨rfl, e, _⟩ | ⟨_, hb, hst, e, _⟩
      · rw [e, rep_get]
        exact ok.nat i (by omega)
      · rw [e, atG_get _ _ _ _ (by omega)]
        have := ok.high i (by omega) (b - 1) (by omega)
        omega)
    (by rcases q5 with ⟨_, _, rfl⟩ | ⟨rfl, _⟩ <;> simp) (by simp) (fun j h1 h2 => ⟨q4 j h1 h2, by simp⟩)
  rcases c with ⟨c, _⟩ | ⟨e1, e2, e3⟩
  · have := c [] ⟨rfl, rfl⟩
    rwa [List.append_nil] at this
  · rw [e3]
    have := q3 [] ⟨by rw [e1], e2.symm⟩
    rwa [List.append_nil] at this
end Go.Proofs.Ytnebadlakmlkkaa.Pure
