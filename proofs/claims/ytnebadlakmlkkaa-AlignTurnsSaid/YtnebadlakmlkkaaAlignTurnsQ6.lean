/- Texts of the claim AlignTurns, put together (part 6): By a program of this session: a Go function as a Lean function, and that the machine's call does what it says. -/
import Derived.ArgAppend
import Derived.Below
import Derived.BigQuiet
import Derived.Deep.AppendLies
import Derived.Deep.CutBlock
import Derived.Deep.DeepCutAuto
import Derived.Deep.Draws
import Derived.Deep.LoopGhost
import Derived.Deep.OwnRows
import Derived.Deep.QuietTactic
import Derived.Deep.RegionHeld3
import Derived.KernelRfl
import Derived.Laws.BitsLemmas
import Derived.Laws.BytesArg
import Derived.Laws.IdiomCopy
import Derived.Laws.MakeOwn
import Derived.Laws.OwnMore
import Derived.Laws.Rows
import Derived.Laws.Slices
import Derived.Laws.StructEq
import Derived.Lib.AppendStr
import Derived.Lib.ConvBytes
import Derived.Maps.AppendAt
import Derived.OrdersHeld
import Derived.OwnWalk
import Derived.RowKit
import Derived.RowKit3
import Derived.Tactics
import Derived.Test.YtnebadlakmlkkaaProg
import Derived.WalkKit
import Derived.WideLaws
import Derived.Test.YtnebadlakmlkkaaAlignTurnsQ5
namespace Go.Proofs.Ytnebadlakmlkkaa.M
open Go.RowKit Go.Proofs.YtnebadlakmlkkaaW.PrintWords Go.Proofs.YtnebadlakmlkkaaW.PrintLast Go.Proofs.YtnebadlakmlkkaaW.PrintMore Go.Proofs.Ytnebadlakmlkkaa.Hand
attribute [local go_sem] max2_int min2_int max_two min_two max_three min_three max_four min_four
set_option linter.unusedVariables false
set_option linter.unusedSimpArgs false

/-! ### sennitlaw05_covers: function 18 -/
mutual
def sennitlaw05_covers.l0 : Nat → List (S39) → Int → List Int → Int → List Int → Int → Option (Bool)
 | 0, _, _, _, _, _, _ => none
 | k + 1, x0, x1, x2, x7, x8, x9 => if x9 < (x0.length : Int) then (if 0 ≤ x9 then (if ((rd_T39 x0 x9).f1.f0) = x7 then (if ((rd_T39 x0 x9).f1.f1) < x7 then (sennitlaw05_covers.j1 k x0 x1 x2 x8 x9 true ((rd_T39 x0 x9).f0) ((rd_T39 x0 x9).f1.f0) ((rd_T39 x0 x9).f1.f1) ((rd_T39 x0 x9).f2)) else (if (((rd_T39 x0 x9).f2).length : Int) = (x2.length : Int) then (if x9 > 0 then (if 0 ≤ (wrap64 (x9 - 1)) then (if (wrap64 (x9 - 1)) < (x0.length : Int) then (if (((rd_T39 x0 x9).f0) == ((rd_T39 x0 (wrap64 (x9 - 1))).f0)) = true then (sennitlaw05_covers.j1 k x0 x1 x2 x8 x9 true ((rd_T39 x0 x9).f0) ((rd_T39 x0 x9).f1.f0) ((rd_T39 x0 x9).f1.f1) ((rd_T39 x0 x9).f2)) else ((sennitref05_Empty.f k ((rd_T39 x0 x9).f0) ((rd_T39 x0 x9).f1.f0) ((rd_T39 x0 x9).f1.f1) ((rd_T39 x0 x9).f2)).bind fun t187 => (sennitlaw05_covers.j1 k x0 x1 x2 x8 x9 t187 ((rd_T39 x0 x9).f0) ((rd_T39 x0 x9).f1.f0) ((rd_T39 x0 x9).f1.f1) ((rd_T39 x0 x9).f2)))) else (none)) else (none)) else ((sennitref05_Empty.f k ((rd_T39 x0 x9).f0) ((rd_T39 x0 x9).f1.f0) ((rd_T39 x0 x9).f1.f1) ((rd_T39 x0 x9).f2)).bind fun t188 => (sennitlaw05_covers.j1 k x0 x1 x2 x8 x9 t188 ((rd_T39 x0 x9).f0) ((rd_T39 x0 x9).f1.f0) ((rd_T39 x0 x9).f1.f1) ((rd_T39 x0 x9).f2)))) else (sennitlaw05_covers.j1 k x0 x1 x2 x8 x9 true ((rd_T39 x0 x9).f0) ((rd_T39 x0 x9).f1.f0) ((rd_T39 x0 x9).f1.f1) ((rd_T39 x0 x9).f2)))) else (sennitlaw05_covers.j1 k x0 x1 x2 x8 x9 true ((rd_T39 x0 x9).f0) ((rd_T39 x0 x9).f1.f0) ((rd_T39 x0 x9).f1.f1) ((rd_T39 x0 x9).f2))) else (none)) else (sennitlaw05_covers.l2 k x1 x2 x7 x8 0)
def sennitlaw05_covers.j1 : Nat → List (S39) → Int → List Int → List Int → Int → Bool → Bool → Int → Int → List (S36) → Option (Bool)
 | 0, _, _, _, _, _, _, _, _, _, _ => none
 | k + 1, x0, x1, x2, x8, x9, x65, x186000, x186001, x186002, x186003 => if x65 = true then (some false) else (sennitlaw05_covers.l1 k x0 x1 x2 x186002 x8 x9 0 x186000 x186001 x186002 x186003)
def sennitlaw05_covers.l1 : Nat → List (S39) → Int → List Int → Int → List Int → Int → Int → Bool → Int → Int → List (S36) → Option (Bool)
 | 0, _, _, _, _, _, _, _, _, _, _, _ => none
 | k + 1, x0, x1, x2, x7, x8, x9, x11, x186000, x186001, x186002, x186003 => if x11 < (x2.length : Int) then (if 0 ≤ x11 then (if x11 < (x186003.length : Int) then (if x11 < (x8.length : Int) then (if ((rd_T36 x186003 x11).f0) = (rd x8 x11) then (if ((rd_T36 x186003 x11).f1) < ((rd_T36 x186003 x11).f0) then (some false) else (if x186000 = true then (if (wrap64 (((rd_T36 x186003 x11).f1) - ((rd_T36 x186003 x11).f0))) = (wrap64 (x186002 - x186001)) then (sennitlaw05_covers.l1 k x0 x1 x2 x7 (x8.set (x11 : Int).toNat ((rd_T36 x186003 x11).f1)) x9 (wrap64 (x11 + 1)) x186000 x186001 x186002 x186003) else (some false)) else (sennitlaw05_covers.l1 k x0 x1 x2 x7 (x8.set (x11 : Int).toNat ((rd_T36 x186003 x11).f1)) x9 (wrap64 (x11 + 1)) x186000 x186001 x186002 x186003))) else (some false)) else (none)) else (none)) else (none)) else (sennitlaw05_covers.l0 k x0 x1 x2 x7 x8 (wrap64 (x9 + 1)))
def sennitlaw05_covers.l2 : Nat → Int → List Int → Int → List Int → Int → Option (Bool)
 | 0, _, _, _, _, _ => none
 | k + 1, x1, x2, x7, x8, x13 => if x13 < (x2.length : Int) then (if 0 ≤ x13 then (if x13 < (x8.length : Int) then (if (rd x8 x13) = (rd x2 x13) then (sennitlaw05_covers.l2 k x1 x2 x7 x8 (wrap64 (x13 + 1))) else (some false)) else (none)) else (none)) else (some (x7 == x1))
end
def sennitlaw05_covers.f (k : Nat) (l0 : List (S39)) (a1 : Int) (l2 : List Int) : Option (Bool) := if 0 ≤ (l2.length : Int) then (if ((l2.length : Int) : Int).toNat ≤ 35184372088832 then (sennitlaw05_covers.l0 k l0 a1 l2 0 (List.replicate ((l2.length : Int) : Int).toNat 0) 0) else (none)) else (none)
theorem sennitlaw05_covers.mono_l : ∀ k, (∀ y0 y1 y2 y3 y4 y5, LeO (sennitlaw05_covers.l0 k y0 y1 y2 y3 y4 y5) (sennitlaw05_covers.l0 (k + 1) y0 y1 y2 y3 y4 y5)) ∧ (∀ y0 y1 y2 y3 y4 y5 y6 y7 y8 y9, LeO (sennitlaw05_covers.j1 k y0 y1 y2 y3 y4 y5 y6 y7 y8 y9) (sennitlaw05_covers.j1 (k + 1) y0 y1 y2 y3 y4 y5 y6 y7 y8 y9)) ∧ (∀ y0 y1 y2 y3 y4 y5 y6 y7 y8 y9 y10, LeO (sennitlaw05_covers.l1 k y0 y1 y2 y3 y4 y5 y6 y7 y8 y9 y10) (sennitlaw05_covers.l1 (k + 1) y0 y1 y2 y3 y4 y5 y6 y7 y8 y9 y10)) ∧ (∀ y0 y1 y2 y3 y4, LeO (sennitlaw05_covers.l2 k y0 y1 y2 y3 y4) (sennitlaw05_covers.l2 (k + 1) y0 y1 y2 y3 y4))
 | 0 => ⟨fun _ _ _ _ _ _ r h => by simp [sennitlaw05_covers.l0] at h, fun _ _ _ _ _ _ _ _ _ _ r h => by simp [sennitlaw05_covers.j1] at h, fun _ _ _ _ _ _ _ _ _ _ _ r h => by simp [sennitlaw05_covers.l1] at h, fun _ _ _ _ _ r h => by simp [sennitlaw05_covers.l2] at h⟩
 | k + 1 => by
  obtain ⟨ih0, ih1, ih2, ih3⟩ := sennitlaw05_covers.mono_l k
  refine ⟨?_, ?_, ?_, ?_⟩
  ·intro y0 y1 y2 y3 y4 y5
   unfold sennitlaw05_covers.l0
   repeat' first
   | (with_reducible exact ih0 _ _ _ _ _ _)
   | (with_reducible exact ih1 _ _ _ _ _ _ _ _ _ _)
   | (with_reducible exact ih2 _ _ _ _ _ _ _ _ _ _ _)
   | (with_reducible exact ih3 _ _ _ _ _)
   | (with_reducible exact sennitref05_Empty.mono _ _ _ _ _)
   | (with_reducible exact LeO.refl _)
   | (with_reducible exact LeO.none _)
   | (with_reducible refine LeO.ite ?_ ?_)
   | (with_reducible refine LeO.bind ?_ (fun _ => ?_))
   | exact ih0 _ _ _ _ _ _
   | exact ih1 _ _ _ _ _ _ _ _ _ _
   | exact ih2 _ _ _ _ _ _ _ _ _ _ _
   | exact ih3 _ _ _ _ _
   | exact sennitref05_Empty.mono _ _ _ _ _
   | exact LeO.none _
   | refine LeO.ite ?_ ?_
   | refine LeO.bind ?_ (fun _ => ?_)
  ·intro y0 y1 y2 y3 y4 y5 y6 y7 y8 y9
   unfold sennitlaw05_covers.j1
   repeat' first
   | (with_reducible exact ih0 _ _ _ _ _ _)
   | (with_reducible exact ih1 _ _ _ _ _ _ _ _ _ _)
   | (with_reducible exact ih2 _ _ _ _ _ _ _ _ _ _ _)
   | (with_reducible exact ih3 _ _ _ _ _)
   | (with_reducible exact sennitref05_Empty.mono _ _ _ _ _)
   | (with_reducible exact LeO.refl _)
   | (with_reducible exact LeO.none _)
   | (with_reducible refine LeO.ite ?_ ?_)
   | (with_reducible refine LeO.bind ?_ (fun _ => ?_))
   | exact ih0 _ _ _ _ _ _
   | exact ih1 _ _ _ _ _ _ _ _ _ _
   | exact ih2 _ _ _ _ _ _ _ _ _ _ _
   | exact ih3 _ _ _ _ _
   | exact sennitref05_Empty.mono _ _ _ _ _
   | exact LeO.none _
   | refine LeO.ite ?_ ?_
   | refine LeO.bind ?_ (fun _ => ?_)
  ·intro y0 y1 y2 y3 y4 y5 y6 y7 y8 y9 y10
   unfold sennitlaw05_covers.l1
   repeat' first
   | (with_reducible exact ih0 _ _ _ _ _ _)
   | (with_reducible exact ih1 _ _ _ _ _ _ _ _ _ _)
   | (with_reducible exact ih2 _ _ _ _ _ _ _ _ _ _ _)
   | (with_reducible exact ih3 _ _ _ _ _)
   | (with_reducible exact sennitref05_Empty.mono _ _ _ _ _)
   | (with_reducible exact LeO.refl _)
   | (with_reducible exact LeO.none _)
   | (with_reducible refine LeO.ite ?_ ?_)
   | (with_reducible refine LeO.bind ?_ (fun _ => ?_))
   | exact ih0 _ _ _ _ _ _
   | exact ih1 _ _ _ _ _ _ _ _ _ _
   | exact ih2 _ _ _ _ _ _ _ _ _ _ _
   | exact ih3 _ _ _ _ _
   | exact sennitref05_Empty.mono _ _ _ _ _
   | exact LeO.none _
   | refine LeO.ite ?_ ?_
   | refine LeO.bind ?_ (fun _ => ?_)
  ·intro y0 y1 y2 y3 y4
   unfold sennitlaw05_covers.l2
   repeat' first
   | (with_reducible exact ih0 _ _ _ _ _ _)
   | (with_reducible exact ih1 _ _ _ _ _ _ _ _ _ _)
   | (with_reducible exact ih2 _ _ _ _ _ _ _ _ _ _ _)
   | (with_reducible exact ih3 _ _ _ _ _)
   | (with_reducible exact sennitref05_Empty.mono _ _ _ _ _)
   | (with_reducible exact LeO.refl _)
   | (with_reducible exact LeO.none _)
   | (with_reducible refine LeO.ite ?_ ?_)
   | (with_reducible refine LeO.bind ?_ (fun _ => ?_))
   | exact ih0 _ _ _ _ _ _
   | exact ih1 _ _ _ _ _ _ _ _ _ _
   | exact ih2 _ _ _ _ _ _ _ _ _ _ _
   | exact ih3 _ _ _ _ _
   | exact sennitref05_Empty.mono _ _ _ _ _
   | exact LeO.none _
   | refine LeO.ite ?_ ?_
   | refine LeO.bind ?_ (fun _ => ?_)
theorem sennitlaw05_covers.mono : ∀ a0 a1 a2 k, LeO (sennitlaw05_covers.f k a0 a1 a2) (sennitlaw05_covers.f (k + 1) a0 a1 a2) := by
 intro a0 a1 a2 k
 obtain ⟨ih0, ih1, ih2, ih3⟩ := sennitlaw05_covers.mono_l k
 unfold sennitlaw05_covers.f
 repeat' first
   | (with_reducible exact ih0 _ _ _ _ _ _)
   | (with_reducible exact ih1 _ _ _ _ _ _ _ _ _ _)
   | (with_reducible exact ih2 _ _ _ _ _ _ _ _ _ _ _)
   | (with_reducible exact ih3 _ _ _ _ _)
   | (with_reducible exact sennitref05_Empty.mono _ _ _ _ _)
   | (with_reducible exact LeO.refl _)
   | (with_reducible exact LeO.none _)
   | (with_reducible refine LeO.ite ?_ ?_)
   | (with_reducible refine LeO.bind ?_ (fun _ => ?_))
   | exact ih0 _ _ _ _ _ _
   | exact ih1 _ _ _ _ _ _ _ _ _ _
   | exact ih2 _ _ _ _ _ _ _ _ _ _ _
   | exact ih3 _ _ _ _ _
   | exact sennitref05_Empty.mono _ _ _ _ _
   | exact LeO.none _
   | refine LeO.ite ?_ ?_
   | refine LeO.bind ?_ (fun _ => ?_)
def sennitlaw05_covers.T7 : Bool × List (List Nat × List Nat) := (true, [([], []), ([0], [0]), ([1], [1]), ([], []), ([2, 3], [2, 3]), ([4], [4]), ([5], [5]), ([6, 5], [5, 6]), ([7, 5], [5, 7]), ([5], [5]), ([8, 9, 5], [5, 8, 9]), ([5, 10], [5, 10]), ([11, 5], [11]), ([12], [12]), ([13, 12], [12, 13]), ([14, 12], [12, 14]), ([12], [12]), ([16, 12], [12, 16]), ([15, 17, 12], [12, 15, 17]), ([12, 18], [12, 18]), ([19, 12], [19]), ([20], [20]), ([21, 20], [20, 21]), ([22, 20, 20], [20, 22]), ([23], [23]), ([24, 23], [23, 24]), ([23], [23]), ([23], [23]), ([27, 23], [23, 27]), ([26, 28, 23], [23, 26, 28]), ([29, 23], [23, 29]), ([30, 23], [23, 30]), ([25, 31, 23], [23, 25, 31]), ([23, 32, 20], [20, 23, 32]), ([20, 33], [20, 33]), ([34, 23], [34]), ([35], [35]), ([36, 35, 35], [35, 36]), ([35, 37], [35, 37])])
def sennitlaw05_covers.B7 : List Nat := [0, 1, 3, 0, 15, 31, 63, 127, 255, 63, 1023, 2047, 4095, 8191, 16383, 32767, 8191, 73727, 262143, 524287, 1048575, 2097151, 4194303, 8388607, 16777215, 33554431, 16777215, 16777215, 150994943, 486539263, 1023410175, 2097151999, 4294967295, 8589934591, 17179869183, 34359738367, 68719476735, 137438953471, 274877906943]
theorem sennitlaw05_covers.tab7 : rtab .any (opsOf Try.f18 7) = sennitlaw05_covers.T7 := by kernel_rfl
theorem sennitlaw05_covers.bits7 : waitsOk sennitlaw05_covers.T7.2 sennitlaw05_covers.B7 = true := by kernel_rfl
def sennitlaw05_covers.T14 : Bool × List (List Nat × List Nat) := (true, [([], []), ([0], [0]), ([], []), ([], []), ([2, 3], [2, 3]), ([4], [4]), ([1, 5], [1, 5]), ([6], [6]), ([7], [7]), ([8, 7], [7, 8]), ([7], [7]), ([10, 7], [7, 10]), ([9, 11, 7], [7, 9, 11]), ([7, 12], [7, 12]), ([13, 7], [13]), ([14], [14]), ([15, 14], [14, 15]), ([16, 14, 14], [14, 16]), ([17], [17]), ([18, 17], [17, 18]), ([17], [17]), ([20, 17], [17, 20]), ([19, 21, 17], [17, 19, 21]), ([17], [17]), ([23, 17], [17, 23]), ([24, 17], [17, 24]), ([17], [17]), ([26, 17], [17, 26]), ([27, 17], [17, 27]), ([25, 28, 17], [17, 25, 28]), ([22, 29, 17], [17, 22, 29]), ([17, 30, 14], [14, 17, 30]), ([14, 31], [14, 31])])
def sennitlaw05_covers.B14 : List Nat := [0, 1, 0, 0, 12, 28, 63, 127, 255, 511, 255, 1279, 4095, 8191, 16383, 32767, 65535, 131071, 262143, 524287, 262143, 1310719, 4194303, 262143, 8650751, 25427967, 262143, 67371007, 201588735, 528744447, 1073741823, 2147483647, 4294967295]
theorem sennitlaw05_covers.tab14 : rtab .any (opsOf Try.f18 14) = sennitlaw05_covers.T14 := by kernel_rfl
theorem sennitlaw05_covers.bits14 : waitsOk sennitlaw05_covers.T14.2 sennitlaw05_covers.B14 = true := by kernel_rfl
def sennitlaw05_covers.T20 : Bool × List (List Nat × List Nat) := (true, [([], []), ([], []), ([0, 1], [0, 1]), ([2], [2]), ([], []), ([], []), ([4, 5], [4, 5]), ([6], [6]), ([3, 7], [3, 7])])
def sennitlaw05_covers.B20 : List Nat := [0, 0, 3, 7, 0, 0, 48, 112, 255]
theorem sennitlaw05_covers.tab20 : rtab .any (opsOf Try.f18 20) = sennitlaw05_covers.T20 := by kernel_rfl
theorem sennitlaw05_covers.bits20 : waitsOk sennitlaw05_covers.T20.2 sennitlaw05_covers.B20 = true := by kernel_rfl
set_option maxHeartbeats 8000000 in
set_option maxRecDepth 100000 in
theorem sennitlaw05_covers.calls (k : Nat) (A0 : Option Addr) (c0 : Nat) (l0 : List (S39)) (a1 : Int) (A2 : Option Addr) (c2 : Nat) (l2 : List Int) (r : Bool) (w : World) (hr0 : Kd.C k39 w A0 l0.length l0) (hc0 : l0.length ≤ c0) (hr2 : Kd.C (Kd.int .i64) w A2 l2.length l2) (hc2 : l2.length ≤ c2) (h : sennitlaw05_covers.f k l0 a1 l2 = some r) :
  Calls Try.prog 18 #[.slice A0 l0.length c0, .int .i64 a1, .slice A2 l2.length c2] w fun e w' => e = .returned (.bool r) ∧ Below w.heap.size w w' := by
 have hu39 := Try.underlying39
 have hu36 := Try.underlying36
 have HR0 := am hr0
 have HC0 := am hc0
 clear hr0 hc0
 have HR2 := am hr2
 have HC2 := am hc2
 clear hr2 hc2
 have HB := am (Below.refl w.heap.size w)
 have H : (if 0 ≤ (l2.length : Int) then (if ((l2.length : Int) : Int).toNat ≤ 35184372088832 then (sennitlaw05_covers.l0 k l0 a1 l2 0 (List.replicate ((l2.length : Int) : Int).toNat 0) 0) else (none)) else (none)) = some r := h
 clear h
 by_cases c4 : 0 ≤ (l2.length : Int)
 ·rw [if_pos c4] at H
  have c4b0 := eq_true c4
  have c4b1 : decide (0 ≤ (l2.length : Int)) = true := decide_eq_true c4
  clear c4
  by_cases c5 : ((l2.length : Int) : Int).toNat ≤ 35184372088832
  ·rw [if_pos c5] at H
   have c5b0 := eq_true c5
   have c5b1 : decide (((l2.length : Int) : Int).toNat ≤ 35184372088832) = true := decide_eq_true c5
   clear c5
   obtain ⟨y181, hy181⟩ : ∃ y_ : List Int, y_ = (List.replicate ((l2.length : Int) : Int).toNat 0) := ⟨_, rfl⟩
   replace H : (sennitlaw05_covers.l0 k l0 a1 l2 0 y181 0) = some r := by first | (rw [hy181]; with_reducible exact H) | (have H2_ := (Option.bind_some _ _).symm.trans H; rw [hy181]; with_reducible exact H2_) | (have H2_ := (Option.bind_some _ _).symm.trans H; with_reducible exact H2_) | with_reducible exact H | (rw [hy181]; exact H) | exact H
   have Ny181 := am hy181
   clear hy181
   have H' := am H
   clear H
   go_enter Try.func18, Try.ntmps18
   go_wp2_with (first | ((with_reducible refine gate_dst (N := 16) rfl ?_); (try (refine gate_guard (by rfl) ?_; dsimp only)); refine Kd.R_make (Kd.int .i64) _ 3 rfl (N := 16) rfl 26 _ _ rfl (l2.length : Int) rfl rfl Try.underlying26 (.int .i64 0) 8 info3 rfl (by decide) (by omega) 0 (ok := fun _ => True) (okp := fun _ => True) rfl (fun _ hk => hk) trivial (of_decide_eq_true (by first | (with_reducible assumption) | assumption)) (Nat.le_trans (Nat.mul_le_mul_right _ (of_decide_eq_true (by first | (with_reducible assumption) | assumption) : (l2.length : Int).toNat ≤ 35184372088832)) (by omega)) (Below.refl _ _) (Nat.le_refl _) ?_; intro v182 w6 ho7 hb hg_ hnew_; clear hg_ hnew_; rw [← Ny181.out] at ho7; have n0_ := am (Kd.R_lower ho7 (below_size (by repeat (with_reducible first | exact HB.out | apply bA | apply bN | apply bD)))); have n1_ := am (below_step (by repeat (with_reducible first | exact HB.out | apply bA | apply bN | apply bD)) hb); clear HB; have HO183 := n0_; have HB := n1_; clear n0_ n1_; clear hb ho7))
   go_loopg [7, 9] k (fun kq v7 v9 w' => ∃ (x7_1 : Int) (x8_1 : List Int) (x9_1 : Int), v7 = .int .i64 x7_1 ∧ v9 = .int .i64 x9_1 ∧ Aside0 (sennitlaw05_covers.l0 kq l0 a1 l2 x7_1 x8_1 x9_1 = some r) ∧ Aside0 (kq ≤ k) ∧ Aside0 (Kd.R (Kd.int .i64) 3 w' w.heap.size (fun _ => True) v182 x8_1) ∧ Aside0 (Below w.heap.size w w'))
   case atStart => exact ⟨(0), (y181), (0), (by first | rfl | (simp; done) | (simp [*]; done)), (by first | rfl | (simp; done) | (simp [*]; done)), H', ⟨Nat.le_refl _⟩, ⟨by (with_reducible repeat (first | apply rA | apply rN | apply rD)); exact HO183.out⟩, ⟨by repeat (with_reducible first | exact HB.out | apply bA | apply bN | apply bD)⟩⟩
   case round =>
    clear H'
    (try clear c1); (try clear c2); (try clear p2); (try clear c4); (try clear c4b0); (try clear c4b1); (try clear c5); (try clear c5b0); (try clear c5b1)
    obtain ⟨x7_1, x8_1, x9_1, rfl, rfl, HA, HK1, HO_8, HB⟩ := hrel
    cases gk with
    | zero => exact absurd HA.out (by simp [sennitlaw05_covers.l0])
    | succ k1 =>
     have H := HA.out
     clear HA
     simp only [sennitlaw05_covers.l0] at H
     by_cases c8 : x9_1 < (l0.length : Int)
     ·rw [if_pos c8] at H
      have c8b0 : decide (x9_1 < (l0.length : Int)) = true := decide_eq_true c8
      clear c8
      by_cases c9 : 0 ≤ x9_1
      ·rw [if_pos c9] at H
       have c9b0 : decide (0 ≤ x9_1) = true := decide_eq_true c9
       clear c9
       have HC10 := am H
       clear H
       have p184 : 0 ≤ (x9_1 : Int) := of_decide_eq_true (by first | (with_reducible assumption) | assumption)
       have q184 : x9_1 < (l0.length : Int) := of_decide_eq_true (by first | (with_reducible assumption) | assumption)
       obtain ⟨ad184, A184_3, c184_3, e184, hx184_0, hx184_1, hx184_2, hx184_3, hl184_3, hi184_3⟩ := at_T39 HR0.out x9_1 p184 q184
       cases e184
       replace hx184_0 := (HB.out.cell (World.block_lt_of_cell? w _ hx184_0)).trans hx184_0
       replace hx184_1 := (HB.out.cell (World.block_lt_of_cell? w _ hx184_1)).trans hx184_1
       replace hx184_2 := (HB.out.cell (World.block_lt_of_cell? w _ hx184_2)).trans hx184_2
       replace hx184_3 := (HB.out.cell (World.block_lt_of_cell? w _ hx184_3)).trans hx184_3
       have HR184_3 := am hi184_3
       have HC184_3 := am hl184_3
       clear hi184_3 hl184_3
       replace p184 := eq_true p184
       replace q184 := eq_true q184
       go_upto_region 7 with (first | ((with_reducible refine gate_dst (N := 10) rfl ?_); (try (refine gate_guard (by rfl) ?_; dsimp only)); refine box_event ?hg (N := 10) ?hd (cs := #[.bool false, .int .i64 0, .int .i64 0, .slice none 0 0]) (t := 39) ?hr ?_; (case hd => rfl); (case hg => rfl); (case hr => first | (go_simp; done) | (go_simp; rfl)); intro gb185 hg w11 hbox hb; have n0_ := am (Kd.R_below (by (with_reducible repeat (first | apply rA | apply rN | apply rD)); exact HO_8.out) hb); have n1_ := am (below_step (by repeat (with_reducible first | exact HB.out | apply bA | apply bN | apply bD)) hb); have n2_ := am (hbox); have n3_ := am ((by rw [hg]; exact (below_size (by repeat (with_reducible first | exact HB.out | apply bA | apply bN | apply bD))) : w.heap.size ≤ gb185)); have n4_ := am ((by rw [hg]; exact (below_size (by repeat (with_reducible first | exact HB.out | apply bA | apply bN | apply bD))) : w.heap.size ≤ gb185)); clear HO_8; clear HB; have HO_8 := n0_; have HB := n1_; have BK185 := n2_; have GW185 := n3_; have GE185 := n4_; clear n0_ n1_ n2_ n3_ n4_; clear hb hbox hg; have hcz12_0 : w11.cell? ⟨gb185, 0, none⟩ = some (.bool false) := (blk_cell BK185.out 0).trans rfl; have hcz12_1 : w11.cell? ⟨gb185, 1, none⟩ = some (.int .i64 0) := (blk_cell BK185.out 1).trans rfl; have hcz12_2 : w11.cell? ⟨gb185, 2, none⟩ = some (.int .i64 0) := (blk_cell BK185.out 2).trans rfl; have hcz12_3 : w11.cell? ⟨gb185, 3, none⟩ = some (.slice none 0 0) := (blk_cell BK185.out 3).trans rfl; have hfz12_0 := blk_frozen BK185.out 0; have hfz12_1 := blk_frozen BK185.out 1; have hfz12_2 := blk_frozen BK185.out 2; have hfz12_3 := blk_frozen BK185.out 3))
       (try simp only [Act.put, List.setIfInBounds_toArray, List.set_cons_zero, List.set_cons_succ])
       go_cut [65] (fun v65 wc => ∃ (kq : Nat) (x65_9 : Bool), v65 = .bool x65_9 ∧ Aside0 (sennitlaw05_covers.j1 kq l0 a1 l2 x8_1 x9_1 x65_9 ((rd_T39 l0 x9_1).f0) ((rd_T39 l0 x9_1).f1.f0) ((rd_T39 l0 x9_1).f1.f1) ((rd_T39 l0 x9_1).f2) = some r) ∧ Aside0 (kq ≤ k1) ∧ Aside0 (Kd.R (Kd.int .i64) 3 wc w.heap.size (fun _ => True) v182 x8_1) ∧ Aside0 (wc.heap[gb185]? = some (.cells #[.bool ((rd_T39 l0 x9_1).f0), .int .i64 ((rd_T39 l0 x9_1).f1.f0), .int .i64 ((rd_T39 l0 x9_1).f1.f1), (.slice A184_3 ((rd_T39 l0 x9_1).f2).length c184_3)] 39 (0, 0))) ∧ Aside0 (Below w.heap.size w wc))
       case first =>
        have H := HC10.out
        clear HC10
        by_cases c13 : ((rd_T39 l0 x9_1).f1.f0) = x7_1
        ·rw [if_pos c13] at H
         have c13b0 : (((rd_T39 l0 x9_1).f1.f0) == x7_1) = true := beq_iff_eq.mpr c13
         have c13b1 : (((rd_T39 l0 x9_1).f1.f0) != x7_1) = false := bne_eq_false_iff_eq.mpr c13
         clear c13
         (first | rw [c13b0] | (simp only [i64_w, i32_w]; rw [c13b0]) | skip)
         by_cases c14 : ((rd_T39 l0 x9_1).f1.f1) < x7_1
         ·rw [if_pos c14] at H
          have c14b0 : decide (((rd_T39 l0 x9_1).f1.f1) < x7_1) = true := decide_eq_true c14
          clear c14
          have H' := am H
          clear H
          try go_wp2
          have n0_ : Aside0 (Kd.R (Kd.int .i64) 3 ((((w11.setCell ⟨gb185, 0, none⟩ (.bool ((rd_T39 l0 x9_1).f0))).setCell ⟨gb185, 1, none⟩ (.int .i64 ((rd_T39 l0 x9_1).f1.f0))).setCell ⟨gb185, 2, none⟩ (.int .i64 ((rd_T39 l0 x9_1).f1.f1))).setCell ⟨gb185, 3, none⟩ (.slice A184_3 ((rd_T39 l0 x9_1).f2).length c184_3)) w.heap.size (fun _ => True) v182 x8_1) := ⟨by (with_reducible repeat (first | apply rA | apply rN | apply rD)); exact Kd.R_mono (Kd.R_far (p := ⟨gb185, 3, none⟩) (Kd.R_far (p := ⟨gb185, 2, none⟩) (Kd.R_far (p := ⟨gb185, 1, none⟩) (Kd.R_far (p := ⟨gb185, 0, none⟩) (Kd.R_types HO_8.out BK185.out (by decide)) (fun _ hk => hk.2) (.bool ((rd_T39 l0 x9_1).f0))) (fun _ hk => hk.2) (.int .i64 ((rd_T39 l0 x9_1).f1.f0))) (fun _ hk => hk.2) (.int .i64 ((rd_T39 l0 x9_1).f1.f1))) (fun _ hk => hk.2) (.slice A184_3 ((rd_T39 l0 x9_1).f2).length c184_3)) (fun _ hk => trivial)⟩
          have n1_ : Aside0 (((((w11.setCell ⟨gb185, 0, none⟩ (.bool ((rd_T39 l0 x9_1).f0))).setCell ⟨gb185, 1, none⟩ (.int .i64 ((rd_T39 l0 x9_1).f1.f0))).setCell ⟨gb185, 2, none⟩ (.int .i64 ((rd_T39 l0 x9_1).f1.f1))).setCell ⟨gb185, 3, none⟩ (.slice A184_3 ((rd_T39 l0 x9_1).f2).length c184_3)).heap[gb185]? = some (.cells #[.bool ((rd_T39 l0 x9_1).f0), .int .i64 ((rd_T39 l0 x9_1).f1.f0), .int .i64 ((rd_T39 l0 x9_1).f1.f1), .slice A184_3 ((rd_T39 l0 x9_1).f2).length c184_3] 39 (0, 0))) := ⟨by (with_reducible repeat (first | refine blk_drewN ?_ _ | refine blk_drew ?_ | refine blk_alloc ?_ _)); refine blk_put (cs := #[.bool ((rd_T39 l0 x9_1).f0), .int .i64 ((rd_T39 l0 x9_1).f1.f0), .int .i64 ((rd_T39 l0 x9_1).f1.f1), .slice none 0 0]) ?_ 3 _ rfl; (with_reducible repeat (first | refine blk_drewN ?_ _ | refine blk_drew ?_ | refine blk_alloc ?_ _)); refine blk_put (cs := #[.bool ((rd_T39 l0 x9_1).f0), .int .i64 ((rd_T39 l0 x9_1).f1.f0), .int .i64 0, .slice none 0 0]) ?_ 2 _ rfl; (with_reducible repeat (first | refine blk_drewN ?_ _ | refine blk_drew ?_ | refine blk_alloc ?_ _)); refine blk_put (cs := #[.bool ((rd_T39 l0 x9_1).f0), .int .i64 0, .int .i64 0, .slice none 0 0]) ?_ 1 _ rfl; (with_reducible repeat (first | refine blk_drewN ?_ _ | refine blk_drew ?_ | refine blk_alloc ?_ _)); refine blk_put (cs := #[.bool false, .int .i64 0, .int .i64 0, .slice none 0 0]) ?_ 0 _ rfl; (with_reducible repeat (first | refine blk_drewN ?_ _ | refine blk_drew ?_ | refine blk_alloc ?_ _)); exact BK185.out⟩
          have n2_ : Aside0 (Below w.heap.size w ((((w11.setCell ⟨gb185, 0, none⟩ (.bool ((rd_T39 l0 x9_1).f0))).setCell ⟨gb185, 1, none⟩ (.int .i64 ((rd_T39 l0 x9_1).f1.f0))).setCell ⟨gb185, 2, none⟩ (.int .i64 ((rd_T39 l0 x9_1).f1.f1))).setCell ⟨gb185, 3, none⟩ (.slice A184_3 ((rd_T39 l0 x9_1).f2).length c184_3))) := ⟨by repeat (first | (with_reducible first | exact HB.out | apply below_alloc | apply pw_below_drewN | apply below_drew1 | refine below_set ?_ GE185.out) | exact HB.out)⟩
          (try clear HO_8)
          (try clear BK185)
          (try clear HB)
          generalize ((((w11.setCell ⟨gb185, 0, none⟩ (.bool ((rd_T39 l0 x9_1).f0))).setCell ⟨gb185, 1, none⟩ (.int .i64 ((rd_T39 l0 x9_1).f1.f0))).setCell ⟨gb185, 2, none⟩ (.int .i64 ((rd_T39 l0 x9_1).f1.f1))).setCell ⟨gb185, 3, none⟩ (.slice A184_3 ((rd_T39 l0 x9_1).f2).length c184_3)) = w15 at n0_ n1_ n2_ ⊢
          have HO_8 := n0_
          have BK185 := n1_
          have HB := n2_
          clear n0_ n1_ n2_
          have n0_ := am (Kd.R_drew HO_8.out)
          have n1_ := am (blk_drew BK185.out)
          have n2_ := am (below_drew1 HB.out)
          clear HO_8
          clear BK185
          clear HB
          have HO_8 := n0_
          have BK185 := n1_
          have HB := n2_
          clear n0_ n1_ n2_
          refine start_ (n := 39) (S := fun w' => w'.cell? ⟨gb185, 0, none⟩ = some (.bool ((rd_T39 l0 x9_1).f0)) ∧ w'.cell? ⟨gb185, 1, none⟩ = some (.int .i64 ((rd_T39 l0 x9_1).f1.f0)) ∧ w'.cell? ⟨gb185, 2, none⟩ = some (.int .i64 ((rd_T39 l0 x9_1).f1.f1)) ∧ w'.cell? ⟨gb185, 3, none⟩ = some (.slice A184_3 ((rd_T39 l0 x9_1).f2).length c184_3)) (ds := []) #[false, false, false, false, false, false, false, false, false, false, false, false, false, false, false, false, false, false, false, false, false, false, false, false, false, false, false, false, false, false, false, false, false, false, false, false, false, false, false] (by kernel_rfl) rfl rfl ⟨(blk_cell BK185.out 0).trans rfl, (blk_cell BK185.out 1).trans rfl, (blk_cell BK185.out 2).trans rfl, (blk_cell BK185.out 3).trans rfl⟩ (fun hHeld => ?_); refine with_tabW sennitlaw05_covers.tab7 sennitlaw05_covers.bits7 (fun HT_ HW_ => ?_)
          generalize w15.drew = w16 at HO_8 BK185 HB hHeld ⊢
          refine pN HT_.out 0 27 ?_
          refine pN HT_.out 1 28 ?_
          refine pN HT_.out 3 30 ?_
          refine take_ (i := 2) (N := some 29) (v := ?_) (a' := ?_) #[true, true, true, true, false, false, false, false, false, false, false, false, false, false, false, false, false, false, false, false, false, false, false, false, false, false, false, false, false, false, false, false, false, false, false, false, false, false, false] rfl rfl (take_ofW HT_.out HW_.out (by kernel_rfl)) (fun _ _ _ h => h) (Or.inl ⟨by rfl, ?_⟩) hHeld ?_ ?_
          rotate_left
          ·rintro w' ⟨s0, s1, s2, s3⟩
           go_simp
           with_reducible rfl
          rotate_left
          ·simp only [Act.put, List.setIfInBounds_toArray, List.set_cons_zero, List.set_cons_succ, i64_w, i32_w]
           rfl
          refine pN HT_.out 4 31 ?_
          refine pN HT_.out 5 32 ?_
          refine pN HT_.out 6 33 ?_
          refine pN HT_.out 7 34 ?_
          refine pN HT_.out 9 36 ?_
          refine take_ (i := 8) (N := some 35) (v := ?_) (a' := ?_) #[true, true, true, true, true, true, true, true, true, true, false, false, false, false, false, false, false, false, false, false, false, false, false, false, false, false, false, false, false, false, false, false, false, false, false, false, false, false, false] rfl rfl (take_ofW HT_.out HW_.out (by kernel_rfl)) (fun _ _ _ h => h) (Or.inl ⟨by rfl, ?_⟩) hHeld ?_ ?_
          rotate_left
          ·rintro w' ⟨s0, s1, s2, s3⟩
           go_simp
           with_reducible rfl
          rotate_left
          ·simp only [Act.put, List.setIfInBounds_toArray, List.set_cons_zero, List.set_cons_succ, i64_w, i32_w]
           rfl
          refine pN HT_.out 10 37 ?_
          refine pN HT_.out 11 38 ?_
          refine pN HT_.out 12 39 ?_
          refine pU HT_.out 13 40 ?_
          refine pU HT_.out 14 41 ?_
          refine pU HT_.out 15 42 ?_
          refine pU HT_.out 16 43 ?_
          refine pU HT_.out 17 44 ?_
          refine pU HT_.out 18 45 ?_
          refine pN HT_.out 19 46 ?_
          refine pN HT_.out 20 47 ?_
          refine pU HT_.out 21 48 ?_
          refine pU HT_.out 22 49 ?_
          refine pU HT_.out 23 50 ?_
          refine pU HT_.out 24 51 ?_
          refine pU HT_.out 25 52 ?_
          refine pU HT_.out 26 53 ?_
          refine pU HT_.out 27 54 ?_
          refine pU HT_.out 28 55 ?_
          refine pU HT_.out 29 56 ?_
          refine pU HT_.out 30 57 ?_
          refine pU HT_.out 31 58 ?_
          refine pU HT_.out 32 59 ?_
          refine pU HT_.out 33 60 ?_
          refine pN HT_.out 34 61 ?_
          refine pN HT_.out 35 62 ?_
          refine pU HT_.out 36 63 ?_
          refine pU HT_.out 37 64 ?_
          refine pN HT_.out 38 65 ?_
          refine done_ (done_of HT_.out (by kernel_rfl)) ?_
          try go_wp2
          go_meet
          case rel => exact ⟨_, (true), (by first | rfl | (simp; done) | (simp [*]; done)), H', ⟨by have := HK1.out; first | omega | exact Nat.le_refl _⟩, ⟨by (with_reducible repeat (first | apply rA | apply rN | apply rD)); exact HO_8.out⟩, ⟨by (with_reducible repeat (first | refine blk_drewN ?_ _ | refine blk_drew ?_ | refine blk_alloc ?_ _)); exact BK185.out⟩, ⟨by repeat (first | (with_reducible first | exact HB.out | apply below_alloc | apply pw_below_drewN | apply below_drew1 | refine below_set ?_ GE185.out) | exact HB.out)⟩⟩
         ·rw [if_neg c14] at H
          have c14b0 : decide (((rd_T39 l0 x9_1).f1.f1) < x7_1) = false := decide_eq_false c14
          clear c14
          by_cases c17 : (((rd_T39 l0 x9_1).f2).length : Int) = (l2.length : Int)
          ·rw [if_pos c17] at H
           have c17b0 : ((((rd_T39 l0 x9_1).f2).length : Int) == (l2.length : Int)) = true := beq_iff_eq.mpr c17
           have c17b1 : ((((rd_T39 l0 x9_1).f2).length : Int) != (l2.length : Int)) = false := bne_eq_false_iff_eq.mpr c17
           have c17b2 : (((rd_T39 l0 x9_1).f2).length == l2.length) = true := by first | simpa using c17 | (simp at c17 ⊢; omega)
           clear c17
           by_cases c18 : x9_1 > 0
           ·rw [if_pos c18] at H
            have c18b0 : decide (0 < x9_1) = true := decide_eq_true c18
            clear c18
            obtain ⟨ji19, hji19⟩ : ∃ j_ : Int, (wrap64 (x9_1 - 1)) = j_ := ⟨_, rfl⟩
            replace H : (if 0 ≤ (ji19) then (if (ji19) < (l0.length : Int) then (if (((rd_T39 l0 x9_1).f0) == ((rd_T39 l0 (ji19)).f0)) = true then (sennitlaw05_covers.j1 k1 l0 a1 l2 x8_1 x9_1 true ((rd_T39 l0 x9_1).f0) ((rd_T39 l0 x9_1).f1.f0) ((rd_T39 l0 x9_1).f1.f1) ((rd_T39 l0 x9_1).f2)) else ((sennitref05_Empty.f k1 ((rd_T39 l0 x9_1).f0) ((rd_T39 l0 x9_1).f1.f0) ((rd_T39 l0 x9_1).f1.f1) ((rd_T39 l0 x9_1).f2)).bind fun t187 => (sennitlaw05_covers.j1 k1 l0 a1 l2 x8_1 x9_1 t187 ((rd_T39 l0 x9_1).f0) ((rd_T39 l0 x9_1).f1.f0) ((rd_T39 l0 x9_1).f1.f1) ((rd_T39 l0 x9_1).f2)))) else (none)) else (none)) = some r := by first | (rw [hji19] at H; exact H) | (simp only [hji19] at H ⊢; exact H)
            have hji19w : (IntKind.i64.wrap (x9_1 - 1)) = ji19 := (i64_w _).trans hji19
            by_cases c20 : 0 ≤ (ji19)
            ·rw [if_pos c20] at H
             have c20b0 : decide (0 ≤ (ji19)) = true := decide_eq_true c20
             clear c20
             by_cases c21 : (ji19) < (l0.length : Int)
             ·rw [if_pos c21] at H
              have c21b0 : decide ((ji19) < (l0.length : Int)) = true := decide_eq_true c21
              clear c21
              by_cases c22 : (((rd_T39 l0 x9_1).f0) == ((rd_T39 l0 (ji19)).f0)) = true
              ·rw [if_pos c22] at H
               have c22b0 : (((rd_T39 l0 x9_1).f0) == ((rd_T39 l0 (ji19)).f0)) = true := c22
               (try (have c22b1 : decide (((rd_T39 l0 x9_1).f0) = ((rd_T39 l0 (ji19)).f0)) = true := by simpa using c22))
               (try (have c22b2 : (((rd_T39 l0 x9_1).f0) == ((rd_T39 l0 (ji19)).f0)) = true := by simpa using c22))
               clear c22
               have H' := am H
               clear H
               try go_wp2
               have n0_ : Aside0 (Kd.R (Kd.int .i64) 3 ((((w11.setCell ⟨gb185, 0, none⟩ (.bool ((rd_T39 l0 x9_1).f0))).setCell ⟨gb185, 1, none⟩ (.int .i64 ((rd_T39 l0 x9_1).f1.f0))).setCell ⟨gb185, 2, none⟩ (.int .i64 ((rd_T39 l0 x9_1).f1.f1))).setCell ⟨gb185, 3, none⟩ (.slice A184_3 ((rd_T39 l0 x9_1).f2).length c184_3)) w.heap.size (fun _ => True) v182 x8_1) := ⟨by (with_reducible repeat (first | apply rA | apply rN | apply rD)); exact Kd.R_mono (Kd.R_far (p := ⟨gb185, 3, none⟩) (Kd.R_far (p := ⟨gb185, 2, none⟩) (Kd.R_far (p := ⟨gb185, 1, none⟩) (Kd.R_far (p := ⟨gb185, 0, none⟩) (Kd.R_types HO_8.out BK185.out (by decide)) (fun _ hk => hk.2) (.bool ((rd_T39 l0 x9_1).f0))) (fun _ hk => hk.2) (.int .i64 ((rd_T39 l0 x9_1).f1.f0))) (fun _ hk => hk.2) (.int .i64 ((rd_T39 l0 x9_1).f1.f1))) (fun _ hk => hk.2) (.slice A184_3 ((rd_T39 l0 x9_1).f2).length c184_3)) (fun _ hk => trivial)⟩
               have n1_ : Aside0 (((((w11.setCell ⟨gb185, 0, none⟩ (.bool ((rd_T39 l0 x9_1).f0))).setCell ⟨gb185, 1, none⟩ (.int .i64 ((rd_T39 l0 x9_1).f1.f0))).setCell ⟨gb185, 2, none⟩ (.int .i64 ((rd_T39 l0 x9_1).f1.f1))).setCell ⟨gb185, 3, none⟩ (.slice A184_3 ((rd_T39 l0 x9_1).f2).length c184_3)).heap[gb185]? = some (.cells #[.bool ((rd_T39 l0 x9_1).f0), .int .i64 ((rd_T39 l0 x9_1).f1.f0), .int .i64 ((rd_T39 l0 x9_1).f1.f1), .slice A184_3 ((rd_T39 l0 x9_1).f2).length c184_3] 39 (0, 0))) := ⟨by (with_reducible repeat (first | refine blk_drewN ?_ _ | refine blk_drew ?_ | refine blk_alloc ?_ _)); refine blk_put (cs := #[.bool ((rd_T39 l0 x9_1).f0), .int .i64 ((rd_T39 l0 x9_1).f1.f0), .int .i64 ((rd_T39 l0 x9_1).f1.f1), .slice none 0 0]) ?_ 3 _ rfl; (with_reducible repeat (first | refine blk_drewN ?_ _ | refine blk_drew ?_ | refine blk_alloc ?_ _)); refine blk_put (cs := #[.bool ((rd_T39 l0 x9_1).f0), .int .i64 ((rd_T39 l0 x9_1).f1.f0), .int .i64 0, .slice none 0 0]) ?_ 2 _ rfl; (with_reducible repeat (first | refine blk_drewN ?_ _ | refine blk_drew ?_ | refine blk_alloc ?_ _)); refine blk_put (cs := #[.bool ((rd_T39 l0 x9_1).f0), .int .i64 0, .int .i64 0, .slice none 0 0]) ?_ 1 _ rfl; (with_reducible repeat (first | refine blk_drewN ?_ _ | refine blk_drew ?_ | refine blk_alloc ?_ _)); refine blk_put (cs := #[.bool false, .int .i64 0, .int .i64 0, .slice none 0 0]) ?_ 0 _ rfl; (with_reducible repeat (first | refine blk_drewN ?_ _ | refine blk_drew ?_ | refine blk_alloc ?_ _)); exact BK185.out⟩
               have n2_ : Aside0 (Below w.heap.size w ((((w11.setCell ⟨gb185, 0, none⟩ (.bool ((rd_T39 l0 x9_1).f0))).setCell ⟨gb185, 1, none⟩ (.int .i64 ((rd_T39 l0 x9_1).f1.f0))).setCell ⟨gb185, 2, none⟩ (.int .i64 ((rd_T39 l0 x9_1).f1.f1))).setCell ⟨gb185, 3, none⟩ (.slice A184_3 ((rd_T39 l0 x9_1).f2).length c184_3))) := ⟨by repeat (first | (with_reducible first | exact HB.out | apply below_alloc | apply pw_below_drewN | apply below_drew1 | refine below_set ?_ GE185.out) | exact HB.out)⟩
               (try clear HO_8)
               (try clear BK185)
               (try clear HB)
               generalize ((((w11.setCell ⟨gb185, 0, none⟩ (.bool ((rd_T39 l0 x9_1).f0))).setCell ⟨gb185, 1, none⟩ (.int .i64 ((rd_T39 l0 x9_1).f1.f0))).setCell ⟨gb185, 2, none⟩ (.int .i64 ((rd_T39 l0 x9_1).f1.f1))).setCell ⟨gb185, 3, none⟩ (.slice A184_3 ((rd_T39 l0 x9_1).f2).length c184_3)) = w23 at n0_ n1_ n2_ ⊢
               have HO_8 := n0_
               have BK185 := n1_
               have HB := n2_
               clear n0_ n1_ n2_
               have n0_ := am (Kd.R_drew HO_8.out)
               have n1_ := am (blk_drew BK185.out)
               have n2_ := am (below_drew1 HB.out)
               clear HO_8
               clear BK185
               clear HB
               have HO_8 := n0_
               have BK185 := n1_
               have HB := n2_
               clear n0_ n1_ n2_
               have p186 : 0 ≤ ((ji19) : Int) := of_decide_eq_true (by first | (with_reducible assumption) | assumption)
               have q186 : (ji19) < (l0.length : Int) := of_decide_eq_true (by first | (with_reducible assumption) | assumption)
               obtain ⟨ad186, A186_3, c186_3, e186, hx186_0, hx186_1, hx186_2, hx186_3, hl186_3, hi186_3⟩ := at_T39 HR0.out (ji19) p186 q186
               have hw186_3 := hx186_3
               have hw186_2 := hx186_2
               have hw186_1 := hx186_1
               have hw186_0 := hx186_0
               obtain rfl : ad184 = ad186 := (by injection e186)
               replace hx186_0 := (HB.out.cell (World.block_lt_of_cell? w _ hx186_0)).trans hx186_0
               replace hx186_1 := (HB.out.cell (World.block_lt_of_cell? w _ hx186_1)).trans hx186_1
               replace hx186_2 := (HB.out.cell (World.block_lt_of_cell? w _ hx186_2)).trans hx186_2
               replace hx186_3 := (HB.out.cell (World.block_lt_of_cell? w _ hx186_3)).trans hx186_3
               have HR186_3 := am hi186_3
               have HC186_3 := am hl186_3
               clear hi186_3 hl186_3
               replace p186 := eq_true p186
               replace q186 := eq_true q186
               refine start_ (n := 39) (S := fun w' => w'.cell? ⟨gb185, 0, none⟩ = some (.bool ((rd_T39 l0 x9_1).f0)) ∧ w'.cell? ⟨gb185, 1, none⟩ = some (.int .i64 ((rd_T39 l0 x9_1).f1.f0)) ∧ w'.cell? ⟨gb185, 2, none⟩ = some (.int .i64 ((rd_T39 l0 x9_1).f1.f1)) ∧ w'.cell? ⟨gb185, 3, none⟩ = some (.slice A184_3 ((rd_T39 l0 x9_1).f2).length c184_3) ∧ w'.cell? (ad184.add (((ji19)).toNat * 4)) = some (.bool ((rd_T39 l0 (ji19)).f0)) ∧ w'.cell? ⟨(ad184.add (((ji19)).toNat * 4)).block, (ad184.add (((ji19)).toNat * 4)).off + 1, none⟩ = some (.int .i64 ((rd_T39 l0 (ji19)).f1.f0)) ∧ w'.cell? ⟨(ad184.add (((ji19)).toNat * 4)).block, (ad184.add (((ji19)).toNat * 4)).off + 2, none⟩ = some (.int .i64 ((rd_T39 l0 (ji19)).f1.f1)) ∧ w'.cell? ⟨(ad184.add (((ji19)).toNat * 4)).block, (ad184.add (((ji19)).toNat * 4)).off + 3, none⟩ = some (.slice A186_3 ((rd_T39 l0 (ji19)).f2).length c186_3)) (ds := []) #[false, false, false, false, false, false, false, false, false, false, false, false, false, false, false, false, false, false, false, false, false, false, false, false, false, false, false, false, false, false, false, false, false, false, false, false, false, false, false] (by kernel_rfl) rfl rfl ⟨(blk_cell BK185.out 0).trans rfl, (blk_cell BK185.out 1).trans rfl, (blk_cell BK185.out 2).trans rfl, (blk_cell BK185.out 3).trans rfl, ((HB.out.cell (World.block_lt_of_cell? w _ hw186_0)).trans hw186_0), ((HB.out.cell (World.block_lt_of_cell? w _ hw186_1)).trans hw186_1), ((HB.out.cell (World.block_lt_of_cell? w _ hw186_2)).trans hw186_2), ((HB.out.cell (World.block_lt_of_cell? w _ hw186_3)).trans hw186_3)⟩ (fun hHeld => ?_); refine with_tabW sennitlaw05_covers.tab7 sennitlaw05_covers.bits7 (fun HT_ HW_ => ?_)
               generalize w23.drew = w24 at HO_8 BK185 HB HR186_3 hx186_0 hx186_1 hx186_2 hx186_3 hHeld ⊢
               refine pN HT_.out 0 27 ?_
               refine pN HT_.out 1 28 ?_
               refine pN HT_.out 3 30 ?_
               refine take_ (i := 2) (N := some 29) (v := ?_) (a' := ?_) #[true, true, true, true, false, false, false, false, false, false, false, false, false, false, false, false, false, false, false, false, false, false, false, false, false, false, false, false, false, false, false, false, false, false, false, false, false, false, false] rfl rfl (take_ofW HT_.out HW_.out (by kernel_rfl)) (fun _ _ _ h => h) (Or.inl ⟨by rfl, ?_⟩) hHeld ?_ ?_
               rotate_left
               ·rintro w' ⟨s0, s1, s2, s3, s4, s5, s6, s7⟩
                go_simp
                with_reducible rfl
               rotate_left
               ·simp only [Act.put, List.setIfInBounds_toArray, List.set_cons_zero, List.set_cons_succ, i64_w, i32_w]
                rfl
               refine pN HT_.out 4 31 ?_
               refine pN HT_.out 5 32 ?_
               refine pN HT_.out 6 33 ?_
               refine pN HT_.out 7 34 ?_
               refine pN HT_.out 9 36 ?_
               refine take_ (i := 8) (N := some 35) (v := ?_) (a' := ?_) #[true, true, true, true, true, true, true, true, true, true, false, false, false, false, false, false, false, false, false, false, false, false, false, false, false, false, false, false, false, false, false, false, false, false, false, false, false, false, false] rfl rfl (take_ofW HT_.out HW_.out (by kernel_rfl)) (fun _ _ _ h => h) (Or.inl ⟨by rfl, ?_⟩) hHeld ?_ ?_
               rotate_left
               ·rintro w' ⟨s0, s1, s2, s3, s4, s5, s6, s7⟩
                go_simp
                with_reducible rfl
               rotate_left
               ·simp only [Act.put, List.setIfInBounds_toArray, List.set_cons_zero, List.set_cons_succ, i64_w, i32_w]
                rfl
               refine pN HT_.out 10 37 ?_
               refine pN HT_.out 11 38 ?_
               refine pN HT_.out 12 39 ?_
               refine pN HT_.out 13 40 ?_
               refine pN HT_.out 16 43 ?_
               refine pN HT_.out 17 44 ?_
               refine take_ (i := 14) (N := some 41) (v := ?_) (a' := ?_) #[true, true, true, true, true, true, true, true, true, true, true, true, true, true, true, false, true, true, false, false, false, false, false, false, false, false, false, false, false, false, false, false, false, false, false, false, false, false, false] rfl rfl (take_ofW HT_.out HW_.out (by kernel_rfl)) (fun _ _ _ h => h) (Or.inl ⟨by rfl, ?_⟩) hHeld ?_ ?_
               rotate_left
               ·rintro w' ⟨s0, s1, s2, s3, s4, s5, s6, s7⟩
                go_simp
                with_reducible rfl
               rotate_left
               ·simp only [Act.put, List.setIfInBounds_toArray, List.set_cons_zero, List.set_cons_succ, i64_w, i32_w]
                rfl
               refine pN HT_.out 15 42 ?_
               refine pN HT_.out 18 45 ?_
               refine pN HT_.out 19 46 ?_
               refine pN HT_.out 20 47 ?_
               refine pN HT_.out 21 48 ?_
               refine pN HT_.out 22 49 ?_
               refine pN HT_.out 23 50 ?_
               refine pN HT_.out 24 51 ?_
               refine pN HT_.out 26 53 ?_
               refine pN HT_.out 27 54 ?_
               refine pN HT_.out 28 55 ?_
               refine pN HT_.out 29 56 ?_
               refine pN HT_.out 30 57 ?_
               refine take_ (i := 25) (N := some 52) (v := ?_) (a' := ?_) #[true, true, true, true, true, true, true, true, true, true, true, true, true, true, true, true, true, true, true, true, true, true, true, true, true, true, true, true, true, true, true, false, false, false, false, false, false, false, false] rfl rfl (take_ofW HT_.out HW_.out (by kernel_rfl)) (fun _ _ _ h => h) (Or.inl ⟨by rfl, ?_⟩) hHeld ?_ ?_
               rotate_left
               ·rintro w' ⟨s0, s1, s2, s3, s4, s5, s6, s7⟩
                go_simp
                with_reducible rfl
               rotate_left
               ·simp only [Act.put, List.setIfInBounds_toArray, List.set_cons_zero, List.set_cons_succ, i64_w, i32_w]
                rfl
               refine take_ (i := 31) (N := some 58) (v := ?_) (a' := ?_) #[true, true, true, true, true, true, true, true, true, true, true, true, true, true, true, true, true, true, true, true, true, true, true, true, true, true, true, true, true, true, true, true, false, false, false, false, false, false, false] rfl rfl (take_ofW HT_.out HW_.out (by kernel_rfl)) (fun _ _ _ h => h) (Or.inl ⟨by rfl, ?_⟩) hHeld ?_ ?_
               rotate_left
               ·rintro w' ⟨s0, s1, s2, s3, s4, s5, s6, s7⟩
                go_simp
                with_reducible rfl
               rotate_left
               ·simp only [Act.put, List.setIfInBounds_toArray, List.set_cons_zero, List.set_cons_succ, i64_w, i32_w]
                rfl
               refine pN HT_.out 32 59 ?_
               refine pN HT_.out 33 60 ?_
               refine pN HT_.out 34 61 ?_
               refine pN HT_.out 35 62 ?_
               refine pU HT_.out 36 63 ?_
               refine pU HT_.out 37 64 ?_
               refine pN HT_.out 38 65 ?_
               refine done_ (done_of HT_.out (by kernel_rfl)) ?_
               try go_wp2
               go_meet
               case rel => exact ⟨_, (true), (by first | rfl | (simp; done) | (simp [*]; done)), H', ⟨by have := HK1.out; first | omega | exact Nat.le_refl _⟩, ⟨by (with_reducible repeat (first | apply rA | apply rN | apply rD)); exact HO_8.out⟩, ⟨by (with_reducible repeat (first | refine blk_drewN ?_ _ | refine blk_drew ?_ | refine blk_alloc ?_ _)); exact BK185.out⟩, ⟨by repeat (first | (with_reducible first | exact HB.out | apply below_alloc | apply pw_below_drewN | apply below_drew1 | refine below_set ?_ GE185.out) | exact HB.out)⟩⟩
              ·rw [if_neg c22] at H
               have c22b0 : (((rd_T39 l0 x9_1).f0) == ((rd_T39 l0 (ji19)).f0)) = false := by simpa using c22
               (try (have c22b1 : decide (((rd_T39 l0 x9_1).f0) = ((rd_T39 l0 (ji19)).f0)) = false := by simpa using c22))
               (try (have c22b2 : (((rd_T39 l0 x9_1).f0) == ((rd_T39 l0 (ji19)).f0)) = false := by simpa using c22))
               (try (have c22b3 : ¬ (((rd_T39 l0 x9_1).f0) = ((rd_T39 l0 (ji19)).f0)) := by simpa using c22))
               clear c22
               replace H := Option.bind_eq_some_iff.mp H
               obtain ⟨t187, A250, H⟩ := H
               replace H : (sennitlaw05_covers.j1 k1 l0 a1 l2 x8_1 x9_1 t187 ((rd_T39 l0 x9_1).f0) ((rd_T39 l0 x9_1).f1.f0) ((rd_T39 l0 x9_1).f1.f1) ((rd_T39 l0 x9_1).f2)) = some r := H
               have A25 := am A250
               clear A250
               have H' := am H
               clear H
               try go_wp2
               have n0_ : Aside0 (Kd.R (Kd.int .i64) 3 ((((w11.setCell ⟨gb185, 0, none⟩ (.bool ((rd_T39 l0 x9_1).f0))).setCell ⟨gb185, 1, none⟩ (.int .i64 ((rd_T39 l0 x9_1).f1.f0))).setCell ⟨gb185, 2, none⟩ (.int .i64 ((rd_T39 l0 x9_1).f1.f1))).setCell ⟨gb185, 3, none⟩ (.slice A184_3 ((rd_T39 l0 x9_1).f2).length c184_3)) w.heap.size (fun _ => True) v182 x8_1) := ⟨by (with_reducible repeat (first | apply rA | apply rN | apply rD)); exact Kd.R_mono (Kd.R_far (p := ⟨gb185, 3, none⟩) (Kd.R_far (p := ⟨gb185, 2, none⟩) (Kd.R_far (p := ⟨gb185, 1, none⟩) (Kd.R_far (p := ⟨gb185, 0, none⟩) (Kd.R_types HO_8.out BK185.out (by decide)) (fun _ hk => hk.2) (.bool ((rd_T39 l0 x9_1).f0))) (fun _ hk => hk.2) (.int .i64 ((rd_T39 l0 x9_1).f1.f0))) (fun _ hk => hk.2) (.int .i64 ((rd_T39 l0 x9_1).f1.f1))) (fun _ hk => hk.2) (.slice A184_3 ((rd_T39 l0 x9_1).f2).length c184_3)) (fun _ hk => trivial)⟩
               have n1_ : Aside0 (((((w11.setCell ⟨gb185, 0, none⟩ (.bool ((rd_T39 l0 x9_1).f0))).setCell ⟨gb185, 1, none⟩ (.int .i64 ((rd_T39 l0 x9_1).f1.f0))).setCell ⟨gb185, 2, none⟩ (.int .i64 ((rd_T39 l0 x9_1).f1.f1))).setCell ⟨gb185, 3, none⟩ (.slice A184_3 ((rd_T39 l0 x9_1).f2).length c184_3)).heap[gb185]? = some (.cells #[.bool ((rd_T39 l0 x9_1).f0), .int .i64 ((rd_T39 l0 x9_1).f1.f0), .int .i64 ((rd_T39 l0 x9_1).f1.f1), .slice A184_3 ((rd_T39 l0 x9_1).f2).length c184_3] 39 (0, 0))) := ⟨by (with_reducible repeat (first | refine blk_drewN ?_ _ | refine blk_drew ?_ | refine blk_alloc ?_ _)); refine blk_put (cs := #[.bool ((rd_T39 l0 x9_1).f0), .int .i64 ((rd_T39 l0 x9_1).f1.f0), .int .i64 ((rd_T39 l0 x9_1).f1.f1), .slice none 0 0]) ?_ 3 _ rfl; (with_reducible repeat (first | refine blk_drewN ?_ _ | refine blk_drew ?_ | refine blk_alloc ?_ _)); refine blk_put (cs := #[.bool ((rd_T39 l0 x9_1).f0), .int .i64 ((rd_T39 l0 x9_1).f1.f0), .int .i64 0, .slice none 0 0]) ?_ 2 _ rfl; (with_reducible repeat (first | refine blk_drewN ?_ _ | refine blk_drew ?_ | refine blk_alloc ?_ _)); refine blk_put (cs := #[.bool ((rd_T39 l0 x9_1).f0), .int .i64 0, .int .i64 0, .slice none 0 0]) ?_ 1 _ rfl; (with_reducible repeat (first | refine blk_drewN ?_ _ | refine blk_drew ?_ | refine blk_alloc ?_ _)); refine blk_put (cs := #[.bool false, .int .i64 0, .int .i64 0, .slice none 0 0]) ?_ 0 _ rfl; (with_reducible repeat (first | refine blk_drewN ?_ _ | refine blk_drew ?_ | refine blk_alloc ?_ _)); exact BK185.out⟩
               have n2_ : Aside0 (Below w.heap.size w ((((w11.setCell ⟨gb185, 0, none⟩ (.bool ((rd_T39 l0 x9_1).f0))).setCell ⟨gb185, 1, none⟩ (.int .i64 ((rd_T39 l0 x9_1).f1.f0))).setCell ⟨gb185, 2, none⟩ (.int .i64 ((rd_T39 l0 x9_1).f1.f1))).setCell ⟨gb185, 3, none⟩ (.slice A184_3 ((rd_T39 l0 x9_1).f2).length c184_3))) := ⟨by repeat (first | (with_reducible first | exact HB.out | apply below_alloc | apply pw_below_drewN | apply below_drew1 | refine below_set ?_ GE185.out) | exact HB.out)⟩
               (try clear HO_8)
               (try clear BK185)
               (try clear HB)
               generalize ((((w11.setCell ⟨gb185, 0, none⟩ (.bool ((rd_T39 l0 x9_1).f0))).setCell ⟨gb185, 1, none⟩ (.int .i64 ((rd_T39 l0 x9_1).f1.f0))).setCell ⟨gb185, 2, none⟩ (.int .i64 ((rd_T39 l0 x9_1).f1.f1))).setCell ⟨gb185, 3, none⟩ (.slice A184_3 ((rd_T39 l0 x9_1).f2).length c184_3)) = w26 at n0_ n1_ n2_ ⊢
               have HO_8 := n0_
               have BK185 := n1_
               have HB := n2_
               clear n0_ n1_ n2_
               have n0_ := am (Kd.R_drew HO_8.out)
               have n1_ := am (blk_drew BK185.out)
               have n2_ := am (below_drew1 HB.out)
               clear HO_8
               clear BK185
               clear HB
               have HO_8 := n0_
               have BK185 := n1_
               have HB := n2_
               clear n0_ n1_ n2_
               have p186 : 0 ≤ ((ji19) : Int) := of_decide_eq_true (by first | (with_reducible assumption) | assumption)
               have q186 : (ji19) < (l0.length : Int) := of_decide_eq_true (by first | (with_reducible assumption) | assumption)
               obtain ⟨ad186, A186_3, c186_3, e186, hx186_0, hx186_1, hx186_2, hx186_3, hl186_3, hi186_3⟩ := at_T39 HR0.out (ji19) p186 q186
               have hw186_3 := hx186_3
               have hw186_2 := hx186_2
               have hw186_1 := hx186_1
               have hw186_0 := hx186_0
               obtain rfl : ad184 = ad186 := (by injection e186)
               replace hx186_0 := (HB.out.cell (World.block_lt_of_cell? w _ hx186_0)).trans hx186_0
               replace hx186_1 := (HB.out.cell (World.block_lt_of_cell? w _ hx186_1)).trans hx186_1
               replace hx186_2 := (HB.out.cell (World.block_lt_of_cell? w _ hx186_2)).trans hx186_2
               replace hx186_3 := (HB.out.cell (World.block_lt_of_cell? w _ hx186_3)).trans hx186_3
               have HR186_3 := am hi186_3
               have HC186_3 := am hl186_3
               clear hi186_3 hl186_3
               replace p186 := eq_true p186
               replace q186 := eq_true q186
               refine start_ (n := 39) (S := fun w' => w'.cell? ⟨gb185, 0, none⟩ = some (.bool ((rd_T39 l0 x9_1).f0)) ∧ w'.cell? ⟨gb185, 1, none⟩ = some (.int .i64 ((rd_T39 l0 x9_1).f1.f0)) ∧ w'.cell? ⟨gb185, 2, none⟩ = some (.int .i64 ((rd_T39 l0 x9_1).f1.f1)) ∧ w'.cell? ⟨gb185, 3, none⟩ = some (.slice A184_3 ((rd_T39 l0 x9_1).f2).length c184_3) ∧ w'.cell? (ad184.add (((ji19)).toNat * 4)) = some (.bool ((rd_T39 l0 (ji19)).f0)) ∧ w'.cell? ⟨(ad184.add (((ji19)).toNat * 4)).block, (ad184.add (((ji19)).toNat * 4)).off + 1, none⟩ = some (.int .i64 ((rd_T39 l0 (ji19)).f1.f0)) ∧ w'.cell? ⟨(ad184.add (((ji19)).toNat * 4)).block, (ad184.add (((ji19)).toNat * 4)).off + 2, none⟩ = some (.int .i64 ((rd_T39 l0 (ji19)).f1.f1)) ∧ w'.cell? ⟨(ad184.add (((ji19)).toNat * 4)).block, (ad184.add (((ji19)).toNat * 4)).off + 3, none⟩ = some (.slice A186_3 ((rd_T39 l0 (ji19)).f2).length c186_3)) (ds := []) #[false, false, false, false, false, false, false, false, false, false, false, false, false, false, false, false, false, false, false, false, false, false, false, false, false, false, false, false, false, false, false, false, false, false, false, false, false, false, false] (by kernel_rfl) rfl rfl ⟨(blk_cell BK185.out 0).trans rfl, (blk_cell BK185.out 1).trans rfl, (blk_cell BK185.out 2).trans rfl, (blk_cell BK185.out 3).trans rfl, ((HB.out.cell (World.block_lt_of_cell? w _ hw186_0)).trans hw186_0), ((HB.out.cell (World.block_lt_of_cell? w _ hw186_1)).trans hw186_1), ((HB.out.cell (World.block_lt_of_cell? w _ hw186_2)).trans hw186_2), ((HB.out.cell (World.block_lt_of_cell? w _ hw186_3)).trans hw186_3)⟩ (fun hHeld => ?_); refine with_tabW sennitlaw05_covers.tab7 sennitlaw05_covers.bits7 (fun HT_ HW_ => ?_)
               generalize w26.drew = w27 at HO_8 BK185 HB HR186_3 hx186_0 hx186_1 hx186_2 hx186_3 hHeld ⊢
               refine pN HT_.out 0 27 ?_
               refine pN HT_.out 1 28 ?_
               refine pN HT_.out 3 30 ?_
               refine take_ (i := 2) (N := some 29) (v := ?_) (a' := ?_) #[true, true, true, true, false, false, false, false, false, false, false, false, false, false, false, false, false, false, false, false, false, false, false, false, false, false, false, false, false, false, false, false, false, false, false, false, false, false, false] rfl rfl (take_ofW HT_.out HW_.out (by kernel_rfl)) (fun _ _ _ h => h) (Or.inl ⟨by rfl, ?_⟩) hHeld ?_ ?_
               rotate_left
               ·rintro w' ⟨s0, s1, s2, s3, s4, s5, s6, s7⟩
                go_simp
                with_reducible rfl
               rotate_left
               ·simp only [Act.put, List.setIfInBounds_toArray, List.set_cons_zero, List.set_cons_succ, i64_w, i32_w]
                rfl
               refine pN HT_.out 4 31 ?_
               refine pN HT_.out 5 32 ?_
               refine pN HT_.out 6 33 ?_
               refine pN HT_.out 7 34 ?_
               refine pN HT_.out 9 36 ?_
               refine take_ (i := 8) (N := some 35) (v := ?_) (a' := ?_) #[true, true, true, true, true, true, true, true, true, true, false, false, false, false, false, false, false, false, false, false, false, false, false, false, false, false, false, false, false, false, false, false, false, false, false, false, false, false, false] rfl rfl (take_ofW HT_.out HW_.out (by kernel_rfl)) (fun _ _ _ h => h) (Or.inl ⟨by rfl, ?_⟩) hHeld ?_ ?_
               rotate_left
               ·rintro w' ⟨s0, s1, s2, s3, s4, s5, s6, s7⟩
                go_simp
                with_reducible rfl
               rotate_left
               ·simp only [Act.put, List.setIfInBounds_toArray, List.set_cons_zero, List.set_cons_succ, i64_w, i32_w]
                rfl
               refine pN HT_.out 10 37 ?_
               refine pN HT_.out 11 38 ?_
               refine pN HT_.out 12 39 ?_
               refine pN HT_.out 13 40 ?_
               refine pN HT_.out 16 43 ?_
               refine pN HT_.out 17 44 ?_
               refine take_ (i := 14) (N := some 41) (v := ?_) (a' := ?_) #[true, true, true, true, true, true, true, true, true, true, true, true, true, true, true, false, true, true, false, false, false, false, false, false, false, false, false, false, false, false, false, false, false, false, false, false, false, false, false] rfl rfl (take_ofW HT_.out HW_.out (by kernel_rfl)) (fun _ _ _ h => h) (Or.inl ⟨by rfl, ?_⟩) hHeld ?_ ?_
               rotate_left
               ·rintro w' ⟨s0, s1, s2, s3, s4, s5, s6, s7⟩
                go_simp
                with_reducible rfl
               rotate_left
               ·simp only [Act.put, List.setIfInBounds_toArray, List.set_cons_zero, List.set_cons_succ, i64_w, i32_w]
                rfl
               refine pN HT_.out 15 42 ?_
               refine pN HT_.out 18 45 ?_
               refine pN HT_.out 19 46 ?_
               refine pN HT_.out 20 47 ?_
               refine pN HT_.out 21 48 ?_
               refine pN HT_.out 22 49 ?_
               refine pN HT_.out 23 50 ?_
               refine pN HT_.out 24 51 ?_
               refine pN HT_.out 26 53 ?_
               refine pN HT_.out 27 54 ?_
               refine pN HT_.out 28 55 ?_
               refine pN HT_.out 29 56 ?_
               refine pN HT_.out 30 57 ?_
               refine take_ (i := 25) (N := some 52) (v := ?_) (a' := ?_) #[true, true, true, true, true, true, true, true, true, true, true, true, true, true, true, true, true, true, true, true, true, true, true, true, true, true, true, true, true, true, true, false, false, false, false, false, false, false, false] rfl rfl (take_ofW HT_.out HW_.out (by kernel_rfl)) (fun _ _ _ h => h) (Or.inl ⟨by rfl, ?_⟩) hHeld ?_ ?_
               rotate_left
               ·rintro w' ⟨s0, s1, s2, s3, s4, s5, s6, s7⟩
                go_simp
                with_reducible rfl
               rotate_left
               ·simp only [Act.put, List.setIfInBounds_toArray, List.set_cons_zero, List.set_cons_succ, i64_w, i32_w]
                rfl
               refine take_ (i := 31) (N := some 58) (v := ?_) (a' := ?_) #[true, true, true, true, true, true, true, true, true, true, true, true, true, true, true, true, true, true, true, true, true, true, true, true, true, true, true, true, true, true, true, true, false, false, false, false, false, false, false] rfl rfl (take_ofW HT_.out HW_.out (by kernel_rfl)) (fun _ _ _ h => h) (Or.inl ⟨by rfl, ?_⟩) hHeld ?_ ?_
               rotate_left
               ·rintro w' ⟨s0, s1, s2, s3, s4, s5, s6, s7⟩
                go_simp
                with_reducible rfl
               rotate_left
               ·simp only [Act.put, List.setIfInBounds_toArray, List.set_cons_zero, List.set_cons_succ, i64_w, i32_w]
                rfl
               refine pN HT_.out 32 59 ?_
               refine pN HT_.out 33 60 ?_
               refine pN HT_.out 34 61 ?_
               refine pN HT_.out 35 62 ?_
               refine take_ (i := 36) (N := some 63) (v := ?_) (a' := ?_) #[true, true, true, true, true, true, true, true, true, true, true, true, true, true, true, true, true, true, true, true, true, true, true, true, true, true, true, true, true, true, true, true, true, true, true, true, true, false, false] rfl rfl (take_ofW HT_.out HW_.out (by kernel_rfl)) (fun _ _ _ h => h) (Or.inl ⟨by rfl, ?_⟩) hHeld ?_ ?_
               rotate_left
               ·rintro w' ⟨s0, s1, s2, s3, s4, s5, s6, s7⟩
                go_simp
                with_reducible rfl
               rotate_left
               ·simp only [Act.put, List.setIfInBounds_toArray, List.set_cons_zero, List.set_cons_succ, i64_w, i32_w]
                rfl
               refine one_ (i := 37) (N := some 64) #[true, true, true, true, true, true, true, true, true, true, true, true, true, true, true, true, true, true, true, true, true, true, true, true, true, true, true, true, true, true, true, true, true, true, true, true, true, true, false] rfl rfl (one_of HT_.out (by kernel_rfl)) (by decide) (fun K hK => ?_)
               refine goes_ Try.func33 (by kernel_rfl) rfl #[.agg #[.bool ((rd_T39 l0 x9_1).f0), .int .i64 ((rd_T39 l0 x9_1).f1.f0), .int .i64 ((rd_T39 l0 x9_1).f1.f1), .slice A184_3 ((rd_T39 l0 x9_1).f2).length c184_3]] (by rfl) rfl rfl (by (try simp only [List.map_toArray, List.map_cons, List.map_nil]); first | done | rfl | (simp only [List.length_drop, List.length_take]; rfl)) ?_
               with_reducible refine (sennitref05_Empty.calls k1 ((rd_T39 l0 x9_1).f0) ((rd_T39 l0 x9_1).f1.f0) ((rd_T39 l0 x9_1).f1.f1) _ _ ((rd_T39 l0 x9_1).f2) t187 _ ?side1 ?side2 A25.out).mono ?_
               (case side1 => repeat (first | exact (Kd.C_below HR184_3.out HB.out) | (with_reducible refine Kd.C_alloc ?_ _) | (with_reducible refine Kd.C_drewN ?_ _) | (with_reducible refine Kd.C_drew ?_)))
               (case side2 => exact HC184_3.out)
               rintro e w28 ⟨rfl, hb⟩
               refine ⟨_, rfl, ?_⟩
               have n0_ := am (Kd.R_below (by (with_reducible repeat (first | apply rA | apply rN | apply rD)); exact HO_8.out) hb)
               have n1_ := am (blk_below (g := gb185) (o := .cells #[.bool ((rd_T39 l0 x9_1).f0), .int .i64 ((rd_T39 l0 x9_1).f1.f0), .int .i64 ((rd_T39 l0 x9_1).f1.f1), .slice A184_3 ((rd_T39 l0 x9_1).f2).length c184_3] 39 (0, 0)) (by (with_reducible repeat (first | refine blk_drewN ?_ _ | refine blk_drew ?_ | refine blk_alloc ?_ _)); exact BK185.out) hb)
               have n2_ := am (below_step (by repeat (first | (with_reducible first | exact HB.out | apply below_alloc | apply pw_below_drewN | apply below_drew1 | refine below_set ?_ GE185.out) | exact HB.out)) hb)
               clear HO_8
               clear BK185
               clear HB
               have HO_8 := n0_
               have BK185 := n1_
               have HB := n2_
               clear n0_ n1_ n2_
               (try clear hb)
               (try clear hb2)
               (try clear hk)
               (try clear hi)
               refine hK.out _ _ ⟨(blk_cell BK185.out 0).trans rfl, (blk_cell BK185.out 1).trans rfl, (blk_cell BK185.out 2).trans rfl, (blk_cell BK185.out 3).trans rfl, ((HB.out.cell (World.block_lt_of_cell? w _ hw186_0)).trans hw186_0), ((HB.out.cell (World.block_lt_of_cell? w _ hw186_1)).trans hw186_1), ((HB.out.cell (World.block_lt_of_cell? w _ hw186_2)).trans hw186_2), ((HB.out.cell (World.block_lt_of_cell? w _ hw186_3)).trans hw186_3)⟩ (fun hHeld => ?_)
               clear hK K
               refine norm_ (a' := ?_) ?_ ?_
               rotate_left
               ·show Act.put _ (some 64) _ = _
                simp only [Act.put, List.setIfInBounds_toArray, List.set_cons_zero, List.set_cons_succ, i64_w, i32_w]
                rfl
               refine pN HT_.out 38 65 ?_
               refine done_ (done_of HT_.out (by kernel_rfl)) ?_
               try go_wp2
               go_meet
               case rel => exact ⟨_, (t187), (by first | rfl | (simp; done) | (simp [*]; done)), H', ⟨by have := HK1.out; first | omega | exact Nat.le_refl _⟩, ⟨by (with_reducible repeat (first | apply rA | apply rN | apply rD)); exact HO_8.out⟩, ⟨by (with_reducible repeat (first | refine blk_drewN ?_ _ | refine blk_drew ?_ | refine blk_alloc ?_ _)); exact BK185.out⟩, ⟨by repeat (first | (with_reducible first | exact HB.out | apply below_alloc | apply pw_below_drewN | apply below_drew1 | refine below_set ?_ GE185.out) | exact HB.out)⟩⟩
             ·rw [if_neg c21] at H
              exact absurd H (by simp)
            ·rw [if_neg c20] at H
             exact absurd H (by simp)
           ·rw [if_neg c18] at H
            have c18b0 : decide (0 < x9_1) = false := decide_eq_false c18
            clear c18
            replace H := Option.bind_eq_some_iff.mp H
            obtain ⟨t188, A290, H⟩ := H
            replace H : (sennitlaw05_covers.j1 k1 l0 a1 l2 x8_1 x9_1 t188 ((rd_T39 l0 x9_1).f0) ((rd_T39 l0 x9_1).f1.f0) ((rd_T39 l0 x9_1).f1.f1) ((rd_T39 l0 x9_1).f2)) = some r := H
            have A29 := am A290
            clear A290
            have H' := am H
            clear H
            try go_wp2
            have n0_ : Aside0 (Kd.R (Kd.int .i64) 3 ((((w11.setCell ⟨gb185, 0, none⟩ (.bool ((rd_T39 l0 x9_1).f0))).setCell ⟨gb185, 1, none⟩ (.int .i64 ((rd_T39 l0 x9_1).f1.f0))).setCell ⟨gb185, 2, none⟩ (.int .i64 ((rd_T39 l0 x9_1).f1.f1))).setCell ⟨gb185, 3, none⟩ (.slice A184_3 ((rd_T39 l0 x9_1).f2).length c184_3)) w.heap.size (fun _ => True) v182 x8_1) := ⟨by (with_reducible repeat (first | apply rA | apply rN | apply rD)); exact Kd.R_mono (Kd.R_far (p := ⟨gb185, 3, none⟩) (Kd.R_far (p := ⟨gb185, 2, none⟩) (Kd.R_far (p := ⟨gb185, 1, none⟩) (Kd.R_far (p := ⟨gb185, 0, none⟩) (Kd.R_types HO_8.out BK185.out (by decide)) (fun _ hk => hk.2) (.bool ((rd_T39 l0 x9_1).f0))) (fun _ hk => hk.2) (.int .i64 ((rd_T39 l0 x9_1).f1.f0))) (fun _ hk => hk.2) (.int .i64 ((rd_T39 l0 x9_1).f1.f1))) (fun _ hk => hk.2) (.slice A184_3 ((rd_T39 l0 x9_1).f2).length c184_3)) (fun _ hk => trivial)⟩
            have n1_ : Aside0 (((((w11.setCell ⟨gb185, 0, none⟩ (.bool ((rd_T39 l0 x9_1).f0))).setCell ⟨gb185, 1, none⟩ (.int .i64 ((rd_T39 l0 x9_1).f1.f0))).setCell ⟨gb185, 2, none⟩ (.int .i64 ((rd_T39 l0 x9_1).f1.f1))).setCell ⟨gb185, 3, none⟩ (.slice A184_3 ((rd_T39 l0 x9_1).f2).length c184_3)).heap[gb185]? = some (.cells #[.bool ((rd_T39 l0 x9_1).f0), .int .i64 ((rd_T39 l0 x9_1).f1.f0), .int .i64 ((rd_T39 l0 x9_1).f1.f1), .slice A184_3 ((rd_T39 l0 x9_1).f2).length c184_3] 39 (0, 0))) := ⟨by (with_reducible repeat (first | refine blk_drewN ?_ _ | refine blk_drew ?_ | refine blk_alloc ?_ _)); refine blk_put (cs := #[.bool ((rd_T39 l0 x9_1).f0), .int .i64 ((rd_T39 l0 x9_1).f1.f0), .int .i64 ((rd_T39 l0 x9_1).f1.f1), .slice none 0 0]) ?_ 3 _ rfl; (with_reducible repeat (first | refine blk_drewN ?_ _ | refine blk_drew ?_ | refine blk_alloc ?_ _)); refine blk_put (cs := #[.bool ((rd_T39 l0 x9_1).f0), .int .i64 ((rd_T39 l0 x9_1).f1.f0), .int .i64 0, .slice none 0 0]) ?_ 2 _ rfl; (with_reducible repeat (first | refine blk_drewN ?_ _ | refine blk_drew ?_ | refine blk_alloc ?_ _)); refine blk_put (cs := #[.bool ((rd_T39 l0 x9_1).f0), .int .i64 0, .int .i64 0, .slice none 0 0]) ?_ 1 _ rfl; (with_reducible repeat (first | refine blk_drewN ?_ _ | refine blk_drew ?_ | refine blk_alloc ?_ _)); refine blk_put (cs := #[.bool false, .int .i64 0, .int .i64 0, .slice none 0 0]) ?_ 0 _ rfl; (with_reducible repeat (first | refine blk_drewN ?_ _ | refine blk_drew ?_ | refine blk_alloc ?_ _)); exact BK185.out⟩
            have n2_ : Aside0 (Below w.heap.size w ((((w11.setCell ⟨gb185, 0, none⟩ (.bool ((rd_T39 l0 x9_1).f0))).setCell ⟨gb185, 1, none⟩ (.int .i64 ((rd_T39 l0 x9_1).f1.f0))).setCell ⟨gb185, 2, none⟩ (.int .i64 ((rd_T39 l0 x9_1).f1.f1))).setCell ⟨gb185, 3, none⟩ (.slice A184_3 ((rd_T39 l0 x9_1).f2).length c184_3))) := ⟨by repeat (first | (with_reducible first | exact HB.out | apply below_alloc | apply pw_below_drewN | apply below_drew1 | refine below_set ?_ GE185.out) | exact HB.out)⟩
            (try clear HO_8)
            (try clear BK185)
            (try clear HB)
            generalize ((((w11.setCell ⟨gb185, 0, none⟩ (.bool ((rd_T39 l0 x9_1).f0))).setCell ⟨gb185, 1, none⟩ (.int .i64 ((rd_T39 l0 x9_1).f1.f0))).setCell ⟨gb185, 2, none⟩ (.int .i64 ((rd_T39 l0 x9_1).f1.f1))).setCell ⟨gb185, 3, none⟩ (.slice A184_3 ((rd_T39 l0 x9_1).f2).length c184_3)) = w30 at n0_ n1_ n2_ ⊢
            have HO_8 := n0_
            have BK185 := n1_
            have HB := n2_
            clear n0_ n1_ n2_
            have n0_ := am (Kd.R_drew HO_8.out)
            have n1_ := am (blk_drew BK185.out)
            have n2_ := am (below_drew1 HB.out)
            clear HO_8
            clear BK185
            clear HB
            have HO_8 := n0_
            have BK185 := n1_
            have HB := n2_
            clear n0_ n1_ n2_
            refine start_ (n := 39) (S := fun w' => w'.cell? ⟨gb185, 0, none⟩ = some (.bool ((rd_T39 l0 x9_1).f0)) ∧ w'.cell? ⟨gb185, 1, none⟩ = some (.int .i64 ((rd_T39 l0 x9_1).f1.f0)) ∧ w'.cell? ⟨gb185, 2, none⟩ = some (.int .i64 ((rd_T39 l0 x9_1).f1.f1)) ∧ w'.cell? ⟨gb185, 3, none⟩ = some (.slice A184_3 ((rd_T39 l0 x9_1).f2).length c184_3)) (ds := []) #[false, false, false, false, false, false, false, false, false, false, false, false, false, false, false, false, false, false, false, false, false, false, false, false, false, false, false, false, false, false, false, false, false, false, false, false, false, false, false] (by kernel_rfl) rfl rfl ⟨(blk_cell BK185.out 0).trans rfl, (blk_cell BK185.out 1).trans rfl, (blk_cell BK185.out 2).trans rfl, (blk_cell BK185.out 3).trans rfl⟩ (fun hHeld => ?_); refine with_tabW sennitlaw05_covers.tab7 sennitlaw05_covers.bits7 (fun HT_ HW_ => ?_)
            generalize w30.drew = w31 at HO_8 BK185 HB hHeld ⊢
            refine pN HT_.out 0 27 ?_
            refine pN HT_.out 1 28 ?_
            refine pN HT_.out 3 30 ?_
            refine take_ (i := 2) (N := some 29) (v := ?_) (a' := ?_) #[true, true, true, true, false, false, false, false, false, false, false, false, false, false, false, false, false, false, false, false, false, false, false, false, false, false, false, false, false, false, false, false, false, false, false, false, false, false, false] rfl rfl (take_ofW HT_.out HW_.out (by kernel_rfl)) (fun _ _ _ h => h) (Or.inl ⟨by rfl, ?_⟩) hHeld ?_ ?_
            rotate_left
            ·rintro w' ⟨s0, s1, s2, s3⟩
             go_simp
             with_reducible rfl
            rotate_left
            ·simp only [Act.put, List.setIfInBounds_toArray, List.set_cons_zero, List.set_cons_succ, i64_w, i32_w]
             rfl
            refine pN HT_.out 4 31 ?_
            refine pN HT_.out 5 32 ?_
            refine pN HT_.out 6 33 ?_
            refine pN HT_.out 7 34 ?_
            refine pN HT_.out 9 36 ?_
            refine take_ (i := 8) (N := some 35) (v := ?_) (a' := ?_) #[true, true, true, true, true, true, true, true, true, true, false, false, false, false, false, false, false, false, false, false, false, false, false, false, false, false, false, false, false, false, false, false, false, false, false, false, false, false, false] rfl rfl (take_ofW HT_.out HW_.out (by kernel_rfl)) (fun _ _ _ h => h) (Or.inl ⟨by rfl, ?_⟩) hHeld ?_ ?_
            rotate_left
            ·rintro w' ⟨s0, s1, s2, s3⟩
             go_simp
             with_reducible rfl
            rotate_left
            ·simp only [Act.put, List.setIfInBounds_toArray, List.set_cons_zero, List.set_cons_succ, i64_w, i32_w]
             rfl
            refine pN HT_.out 10 37 ?_
            refine pN HT_.out 11 38 ?_
            refine pN HT_.out 12 39 ?_
            refine pN HT_.out 13 40 ?_
            refine pN HT_.out 16 43 ?_
            refine pN HT_.out 17 44 ?_
            refine take_ (i := 14) (N := some 41) (v := ?_) (a' := ?_) #[true, true, true, true, true, true, true, true, true, true, true, true, true, true, true, false, true, true, false, false, false, false, false, false, false, false, false, false, false, false, false, false, false, false, false, false, false, false, false] rfl rfl (take_ofW HT_.out HW_.out (by kernel_rfl)) (fun _ _ _ h => h) (Or.inl ⟨by rfl, ?_⟩) hHeld ?_ ?_
            rotate_left
            ·rintro w' ⟨s0, s1, s2, s3⟩
             go_simp
             with_reducible rfl
            rotate_left
            ·simp only [Act.put, List.setIfInBounds_toArray, List.set_cons_zero, List.set_cons_succ, i64_w, i32_w]
             rfl
            refine pN HT_.out 15 42 ?_
            refine pN HT_.out 18 45 ?_
            refine pN HT_.out 19 46 ?_
            refine pN HT_.out 20 47 ?_
            refine pN HT_.out 21 48 ?_
            refine pN HT_.out 22 49 ?_
            refine pN HT_.out 23 50 ?_
            refine pU HT_.out 24 51 ?_
            refine pU HT_.out 25 52 ?_
            refine pU HT_.out 26 53 ?_
            refine pU HT_.out 27 54 ?_
            refine pU HT_.out 28 55 ?_
            refine pU HT_.out 29 56 ?_
            refine pU HT_.out 30 57 ?_
            refine pU HT_.out 31 58 ?_
            refine pU HT_.out 32 59 ?_
            refine pN HT_.out 33 60 ?_
            refine pN HT_.out 34 61 ?_
            refine pN HT_.out 35 62 ?_
            refine take_ (i := 36) (N := some 63) (v := ?_) (a' := ?_) #[true, true, true, true, true, true, true, true, true, true, true, true, true, true, true, true, true, true, true, true, true, true, true, true, true, true, true, true, true, true, true, true, true, true, true, true, true, false, false] rfl rfl (take_ofW HT_.out HW_.out (by kernel_rfl)) (fun _ _ _ h => h) (Or.inl ⟨by rfl, ?_⟩) hHeld ?_ ?_
            rotate_left
            ·rintro w' ⟨s0, s1, s2, s3⟩
             go_simp
             with_reducible rfl
            rotate_left
            ·simp only [Act.put, List.setIfInBounds_toArray, List.set_cons_zero, List.set_cons_succ, i64_w, i32_w]
             rfl
            refine one_ (i := 37) (N := some 64) #[true, true, true, true, true, true, true, true, true, true, true, true, true, true, true, true, true, true, true, true, true, true, true, true, true, true, true, true, true, true, true, true, true, true, true, true, true, true, false] rfl rfl (one_of HT_.out (by kernel_rfl)) (by decide) (fun K hK => ?_)
            refine goes_ Try.func33 (by kernel_rfl) rfl #[.agg #[.bool ((rd_T39 l0 x9_1).f0), .int .i64 ((rd_T39 l0 x9_1).f1.f0), .int .i64 ((rd_T39 l0 x9_1).f1.f1), .slice A184_3 ((rd_T39 l0 x9_1).f2).length c184_3]] (by rfl) rfl rfl (by (try simp only [List.map_toArray, List.map_cons, List.map_nil]); first | done | rfl | (simp only [List.length_drop, List.length_take]; rfl)) ?_
            with_reducible refine (sennitref05_Empty.calls k1 ((rd_T39 l0 x9_1).f0) ((rd_T39 l0 x9_1).f1.f0) ((rd_T39 l0 x9_1).f1.f1) _ _ ((rd_T39 l0 x9_1).f2) t188 _ ?side1 ?side2 A29.out).mono ?_
            (case side1 => repeat (first | exact (Kd.C_below HR184_3.out HB.out) | (with_reducible refine Kd.C_alloc ?_ _) | (with_reducible refine Kd.C_drewN ?_ _) | (with_reducible refine Kd.C_drew ?_)))
            (case side2 => exact HC184_3.out)
            rintro e w32 ⟨rfl, hb⟩
            refine ⟨_, rfl, ?_⟩
            have n0_ := am (Kd.R_below (by (with_reducible repeat (first | apply rA | apply rN | apply rD)); exact HO_8.out) hb)
            have n1_ := am (blk_below (g := gb185) (o := .cells #[.bool ((rd_T39 l0 x9_1).f0), .int .i64 ((rd_T39 l0 x9_1).f1.f0), .int .i64 ((rd_T39 l0 x9_1).f1.f1), .slice A184_3 ((rd_T39 l0 x9_1).f2).length c184_3] 39 (0, 0)) (by (with_reducible repeat (first | refine blk_drewN ?_ _ | refine blk_drew ?_ | refine blk_alloc ?_ _)); exact BK185.out) hb)
            have n2_ := am (below_step (by repeat (first | (with_reducible first | exact HB.out | apply below_alloc | apply pw_below_drewN | apply below_drew1 | refine below_set ?_ GE185.out) | exact HB.out)) hb)
            clear HO_8
            clear BK185
            clear HB
            have HO_8 := n0_
            have BK185 := n1_
            have HB := n2_
            clear n0_ n1_ n2_
            (try clear hb)
            (try clear hb2)
            (try clear hk)
            (try clear hi)
            refine hK.out _ _ ⟨(blk_cell BK185.out 0).trans rfl, (blk_cell BK185.out 1).trans rfl, (blk_cell BK185.out 2).trans rfl, (blk_cell BK185.out 3).trans rfl⟩ (fun hHeld => ?_)
            clear hK K
            refine norm_ (a' := ?_) ?_ ?_
            rotate_left
            ·show Act.put _ (some 64) _ = _
             simp only [Act.put, List.setIfInBounds_toArray, List.set_cons_zero, List.set_cons_succ, i64_w, i32_w]
             rfl
            refine pN HT_.out 38 65 ?_
            refine done_ (done_of HT_.out (by kernel_rfl)) ?_
            try go_wp2
            go_meet
            case rel => exact ⟨_, (t188), (by first | rfl | (simp; done) | (simp [*]; done)), H', ⟨by have := HK1.out; first | omega | exact Nat.le_refl _⟩, ⟨by (with_reducible repeat (first | apply rA | apply rN | apply rD)); exact HO_8.out⟩, ⟨by (with_reducible repeat (first | refine blk_drewN ?_ _ | refine blk_drew ?_ | refine blk_alloc ?_ _)); exact BK185.out⟩, ⟨by repeat (first | (with_reducible first | exact HB.out | apply below_alloc | apply pw_below_drewN | apply below_drew1 | refine below_set ?_ GE185.out) | exact HB.out)⟩⟩
          ·rw [if_neg c17] at H
           have c17b0 : ((((rd_T39 l0 x9_1).f2).length : Int) == (l2.length : Int)) = false := beq_eq_false_iff_ne.mpr c17
           have c17b1 : ((((rd_T39 l0 x9_1).f2).length : Int) != (l2.length : Int)) = true := bne_iff_ne.mpr c17
           have c17b2 : (((rd_T39 l0 x9_1).f2).length == l2.length) = false := by first | simpa using c17 | (simp at c17 ⊢; omega)
           have H' := am H
           clear H
           try go_wp2
           have n0_ : Aside0 (Kd.R (Kd.int .i64) 3 ((((w11.setCell ⟨gb185, 0, none⟩ (.bool ((rd_T39 l0 x9_1).f0))).setCell ⟨gb185, 1, none⟩ (.int .i64 ((rd_T39 l0 x9_1).f1.f0))).setCell ⟨gb185, 2, none⟩ (.int .i64 ((rd_T39 l0 x9_1).f1.f1))).setCell ⟨gb185, 3, none⟩ (.slice A184_3 ((rd_T39 l0 x9_1).f2).length c184_3)) w.heap.size (fun _ => True) v182 x8_1) := ⟨by (with_reducible repeat (first | apply rA | apply rN | apply rD)); exact Kd.R_mono (Kd.R_far (p := ⟨gb185, 3, none⟩) (Kd.R_far (p := ⟨gb185, 2, none⟩) (Kd.R_far (p := ⟨gb185, 1, none⟩) (Kd.R_far (p := ⟨gb185, 0, none⟩) (Kd.R_types HO_8.out BK185.out (by decide)) (fun _ hk => hk.2) (.bool ((rd_T39 l0 x9_1).f0))) (fun _ hk => hk.2) (.int .i64 ((rd_T39 l0 x9_1).f1.f0))) (fun _ hk => hk.2) (.int .i64 ((rd_T39 l0 x9_1).f1.f1))) (fun _ hk => hk.2) (.slice A184_3 ((rd_T39 l0 x9_1).f2).length c184_3)) (fun _ hk => trivial)⟩
           have n1_ : Aside0 (((((w11.setCell ⟨gb185, 0, none⟩ (.bool ((rd_T39 l0 x9_1).f0))).setCell ⟨gb185, 1, none⟩ (.int .i64 ((rd_T39 l0 x9_1).f1.f0))).setCell ⟨gb185, 2, none⟩ (.int .i64 ((rd_T39 l0 x9_1).f1.f1))).setCell ⟨gb185, 3, none⟩ (.slice A184_3 ((rd_T39 l0 x9_1).f2).length c184_3)).heap[gb185]? = some (.cells #[.bool ((rd_T39 l0 x9_1).f0), .int .i64 ((rd_T39 l0 x9_1).f1.f0), .int .i64 ((rd_T39 l0 x9_1).f1.f1), .slice A184_3 ((rd_T39 l0 x9_1).f2).length c184_3] 39 (0, 0))) := ⟨by (with_reducible repeat (first | refine blk_drewN ?_ _ | refine blk_drew ?_ | refine blk_alloc ?_ _)); refine blk_put (cs := #[.bool ((rd_T39 l0 x9_1).f0), .int .i64 ((rd_T39 l0 x9_1).f1.f0), .int .i64 ((rd_T39 l0 x9_1).f1.f1), .slice none 0 0]) ?_ 3 _ rfl; (with_reducible repeat (first | refine blk_drewN ?_ _ | refine blk_drew ?_ | refine blk_alloc ?_ _)); refine blk_put (cs := #[.bool ((rd_T39 l0 x9_1).f0), .int .i64 ((rd_T39 l0 x9_1).f1.f0), .int .i64 0, .slice none 0 0]) ?_ 2 _ rfl; (with_reducible repeat (first | refine blk_drewN ?_ _ | refine blk_drew ?_ | refine blk_alloc ?_ _)); refine blk_put (cs := #[.bool ((rd_T39 l0 x9_1).f0), .int .i64 0, .int .i64 0, .slice none 0 0]) ?_ 1 _ rfl; (with_reducible repeat (first | refine blk_drewN ?_ _ | refine blk_drew ?_ | refine blk_alloc ?_ _)); refine blk_put (cs := #[.bool false, .int .i64 0, .int .i64 0, .slice none 0 0]) ?_ 0 _ rfl; (with_reducible repeat (first | refine blk_drewN ?_ _ | refine blk_drew ?_ | refine blk_alloc ?_ _)); exact BK185.out⟩
           have n2_ : Aside0 (Below w.heap.size w ((((w11.setCell ⟨gb185, 0, none⟩ (.bool ((rd_T39 l0 x9_1).f0))).setCell ⟨gb185, 1, none⟩ (.int .i64 ((rd_T39 l0 x9_1).f1.f0))).setCell ⟨gb185, 2, none⟩ (.int .i64 ((rd_T39 l0 x9_1).f1.f1))).setCell ⟨gb185, 3, none⟩ (.slice A184_3 ((rd_T39 l0 x9_1).f2).length c184_3))) := ⟨by repeat (first | (with_reducible first | exact HB.out | apply below_alloc | apply pw_below_drewN | apply below_drew1 | refine below_set ?_ GE185.out) | exact HB.out)⟩
           (try clear HO_8)
           (try clear BK185)
           (try clear HB)
           generalize ((((w11.setCell ⟨gb185, 0, none⟩ (.bool ((rd_T39 l0 x9_1).f0))).setCell ⟨gb185, 1, none⟩ (.int .i64 ((rd_T39 l0 x9_1).f1.f0))).setCell ⟨gb185, 2, none⟩ (.int .i64 ((rd_T39 l0 x9_1).f1.f1))).setCell ⟨gb185, 3, none⟩ (.slice A184_3 ((rd_T39 l0 x9_1).f2).length c184_3)) = w33 at n0_ n1_ n2_ ⊢
           have HO_8 := n0_
           have BK185 := n1_
           have HB := n2_
           clear n0_ n1_ n2_
           have n0_ := am (Kd.R_drew HO_8.out)
           have n1_ := am (blk_drew BK185.out)
           have n2_ := am (below_drew1 HB.out)
           clear HO_8
           clear BK185
           clear HB
           have HO_8 := n0_
           have BK185 := n1_
           have HB := n2_
           clear n0_ n1_ n2_
           refine start_ (n := 39) (S := fun w' => w'.cell? ⟨gb185, 0, none⟩ = some (.bool ((rd_T39 l0 x9_1).f0)) ∧ w'.cell? ⟨gb185, 1, none⟩ = some (.int .i64 ((rd_T39 l0 x9_1).f1.f0)) ∧ w'.cell? ⟨gb185, 2, none⟩ = some (.int .i64 ((rd_T39 l0 x9_1).f1.f1)) ∧ w'.cell? ⟨gb185, 3, none⟩ = some (.slice A184_3 ((rd_T39 l0 x9_1).f2).length c184_3)) (ds := []) #[false, false, false, false, false, false, false, false, false, false, false, false, false, false, false, false, false, false, false, false, false, false, false, false, false, false, false, false, false, false, false, false, false, false, false, false, false, false, false] (by kernel_rfl) rfl rfl ⟨(blk_cell BK185.out 0).trans rfl, (blk_cell BK185.out 1).trans rfl, (blk_cell BK185.out 2).trans rfl, (blk_cell BK185.out 3).trans rfl⟩ (fun hHeld => ?_); refine with_tabW sennitlaw05_covers.tab7 sennitlaw05_covers.bits7 (fun HT_ HW_ => ?_)
           generalize w33.drew = w34 at HO_8 BK185 HB hHeld ⊢
           refine pN HT_.out 0 27 ?_
           refine pN HT_.out 1 28 ?_
           refine pN HT_.out 3 30 ?_
           refine take_ (i := 2) (N := some 29) (v := ?_) (a' := ?_) #[true, true, true, true, false, false, false, false, false, false, false, false, false, false, false, false, false, false, false, false, false, false, false, false, false, false, false, false, false, false, false, false, false, false, false, false, false, false, false] rfl rfl (take_ofW HT_.out HW_.out (by kernel_rfl)) (fun _ _ _ h => h) (Or.inl ⟨by rfl, ?_⟩) hHeld ?_ ?_
           rotate_left
           ·rintro w' ⟨s0, s1, s2, s3⟩
            go_simp
            with_reducible rfl
           rotate_left
           ·simp only [Act.put, List.setIfInBounds_toArray, List.set_cons_zero, List.set_cons_succ, i64_w, i32_w]
            rfl
           refine pN HT_.out 4 31 ?_
           refine pN HT_.out 5 32 ?_
           refine pN HT_.out 6 33 ?_
           refine pN HT_.out 7 34 ?_
           refine pN HT_.out 9 36 ?_
           refine take_ (i := 8) (N := some 35) (v := ?_) (a' := ?_) #[true, true, true, true, true, true, true, true, true, true, false, false, false, false, false, false, false, false, false, false, false, false, false, false, false, false, false, false, false, false, false, false, false, false, false, false, false, false, false] rfl rfl (take_ofW HT_.out HW_.out (by kernel_rfl)) (fun _ _ _ h => h) (Or.inl ⟨by rfl, ?_⟩) hHeld ?_ ?_
           rotate_left
           ·rintro w' ⟨s0, s1, s2, s3⟩
            go_simp
            with_reducible rfl
           rotate_left
           ·simp only [Act.put, List.setIfInBounds_toArray, List.set_cons_zero, List.set_cons_succ, i64_w, i32_w]
            rfl
           refine pN HT_.out 10 37 ?_
           refine pN HT_.out 11 38 ?_
           refine pN HT_.out 12 39 ?_
           refine pN HT_.out 13 40 ?_
           refine pN HT_.out 16 43 ?_
           refine pN HT_.out 17 44 ?_
           refine take_ (i := 14) (N := some 41) (v := ?_) (a' := ?_) #[true, true, true, true, true, true, true, true, true, true, true, true, true, true, true, false, true, true, false, false, false, false, false, false, false, false, false, false, false, false, false, false, false, false, false, false, false, false, false] rfl rfl (take_ofW HT_.out HW_.out (by kernel_rfl)) (fun _ _ _ h => h) (Or.inl ⟨by rfl, ?_⟩) hHeld ?_ ?_
           rotate_left
           ·rintro w' ⟨s0, s1, s2, s3⟩
            go_simp
            with_reducible rfl
           rotate_left
           ·simp only [Act.put, List.setIfInBounds_toArray, List.set_cons_zero, List.set_cons_succ, i64_w, i32_w]
            rfl
           refine pN HT_.out 15 42 ?_
           refine pN HT_.out 18 45 ?_
           refine pN HT_.out 19 46 ?_
           refine pN HT_.out 20 47 ?_
           refine pU HT_.out 21 48 ?_
           refine pU HT_.out 22 49 ?_
           refine pU HT_.out 23 50 ?_
           refine pU HT_.out 24 51 ?_
           refine pU HT_.out 25 52 ?_
           refine pU HT_.out 26 53 ?_
           refine pU HT_.out 27 54 ?_
           refine pU HT_.out 28 55 ?_
           refine pU HT_.out 29 56 ?_
           refine pU HT_.out 30 57 ?_
           refine pU HT_.out 31 58 ?_
           refine pU HT_.out 32 59 ?_
           refine pU HT_.out 33 60 ?_
           refine pN HT_.out 34 61 ?_
           refine pN HT_.out 35 62 ?_
           refine pU HT_.out 36 63 ?_
           refine pU HT_.out 37 64 ?_
           refine pN HT_.out 38 65 ?_
           refine done_ (done_of HT_.out (by kernel_rfl)) ?_
           try go_wp2
           go_meet
           case rel => exact ⟨_, (true), (by first | rfl | (simp; done) | (simp [*]; done)), H', ⟨by have := HK1.out; first | omega | exact Nat.le_refl _⟩, ⟨by (with_reducible repeat (first | apply rA | apply rN | apply rD)); exact HO_8.out⟩, ⟨by (with_reducible repeat (first | refine blk_drewN ?_ _ | refine blk_drew ?_ | refine blk_alloc ?_ _)); exact BK185.out⟩, ⟨by repeat (first | (with_reducible first | exact HB.out | apply below_alloc | apply pw_below_drewN | apply below_drew1 | refine below_set ?_ GE185.out) | exact HB.out)⟩⟩
        ·rw [if_neg c13] at H
         have c13b0 : (((rd_T39 l0 x9_1).f1.f0) == x7_1) = false := beq_eq_false_iff_ne.mpr c13
         have c13b1 : (((rd_T39 l0 x9_1).f1.f0) != x7_1) = true := bne_iff_ne.mpr c13
         (first | rw [c13b0] | (simp only [i64_w, i32_w]; rw [c13b0]) | skip)
         have H' := am H
         clear H
         try go_wp2
         have n0_ : Aside0 (Kd.R (Kd.int .i64) 3 ((((w11.setCell ⟨gb185, 0, none⟩ (.bool ((rd_T39 l0 x9_1).f0))).setCell ⟨gb185, 1, none⟩ (.int .i64 ((rd_T39 l0 x9_1).f1.f0))).setCell ⟨gb185, 2, none⟩ (.int .i64 ((rd_T39 l0 x9_1).f1.f1))).setCell ⟨gb185, 3, none⟩ (.slice A184_3 ((rd_T39 l0 x9_1).f2).length c184_3)) w.heap.size (fun _ => True) v182 x8_1) := ⟨by (with_reducible repeat (first | apply rA | apply rN | apply rD)); exact Kd.R_mono (Kd.R_far (p := ⟨gb185, 3, none⟩) (Kd.R_far (p := ⟨gb185, 2, none⟩) (Kd.R_far (p := ⟨gb185, 1, none⟩) (Kd.R_far (p := ⟨gb185, 0, none⟩) (Kd.R_types HO_8.out BK185.out (by decide)) (fun _ hk => hk.2) (.bool ((rd_T39 l0 x9_1).f0))) (fun _ hk => hk.2) (.int .i64 ((rd_T39 l0 x9_1).f1.f0))) (fun _ hk => hk.2) (.int .i64 ((rd_T39 l0 x9_1).f1.f1))) (fun _ hk => hk.2) (.slice A184_3 ((rd_T39 l0 x9_1).f2).length c184_3)) (fun _ hk => trivial)⟩
         have n1_ : Aside0 (((((w11.setCell ⟨gb185, 0, none⟩ (.bool ((rd_T39 l0 x9_1).f0))).setCell ⟨gb185, 1, none⟩ (.int .i64 ((rd_T39 l0 x9_1).f1.f0))).setCell ⟨gb185, 2, none⟩ (.int .i64 ((rd_T39 l0 x9_1).f1.f1))).setCell ⟨gb185, 3, none⟩ (.slice A184_3 ((rd_T39 l0 x9_1).f2).length c184_3)).heap[gb185]? = some (.cells #[.bool ((rd_T39 l0 x9_1).f0), .int .i64 ((rd_T39 l0 x9_1).f1.f0), .int .i64 ((rd_T39 l0 x9_1).f1.f1), .slice A184_3 ((rd_T39 l0 x9_1).f2).length c184_3] 39 (0, 0))) := ⟨by (with_reducible repeat (first | refine blk_drewN ?_ _ | refine blk_drew ?_ | refine blk_alloc ?_ _)); refine blk_put (cs := #[.bool ((rd_T39 l0 x9_1).f0), .int .i64 ((rd_T39 l0 x9_1).f1.f0), .int .i64 ((rd_T39 l0 x9_1).f1.f1), .slice none 0 0]) ?_ 3 _ rfl; (with_reducible repeat (first | refine blk_drewN ?_ _ | refine blk_drew ?_ | refine blk_alloc ?_ _)); refine blk_put (cs := #[.bool ((rd_T39 l0 x9_1).f0), .int .i64 ((rd_T39 l0 x9_1).f1.f0), .int .i64 0, .slice none 0 0]) ?_ 2 _ rfl; (with_reducible repeat (first | refine blk_drewN ?_ _ | refine blk_drew ?_ | refine blk_alloc ?_ _)); refine blk_put (cs := #[.bool ((rd_T39 l0 x9_1).f0), .int .i64 0, .int .i64 0, .slice none 0 0]) ?_ 1 _ rfl; (with_reducible repeat (first | refine blk_drewN ?_ _ | refine blk_drew ?_ | refine blk_alloc ?_ _)); refine blk_put (cs := #[.bool false, .int .i64 0, .int .i64 0, .slice none 0 0]) ?_ 0 _ rfl; (with_reducible repeat (first | refine blk_drewN ?_ _ | refine blk_drew ?_ | refine blk_alloc ?_ _)); exact BK185.out⟩
         have n2_ : Aside0 (Below w.heap.size w ((((w11.setCell ⟨gb185, 0, none⟩ (.bool ((rd_T39 l0 x9_1).f0))).setCell ⟨gb185, 1, none⟩ (.int .i64 ((rd_T39 l0 x9_1).f1.f0))).setCell ⟨gb185, 2, none⟩ (.int .i64 ((rd_T39 l0 x9_1).f1.f1))).setCell ⟨gb185, 3, none⟩ (.slice A184_3 ((rd_T39 l0 x9_1).f2).length c184_3))) := ⟨by repeat (first | (with_reducible first | exact HB.out | apply below_alloc | apply pw_below_drewN | apply below_drew1 | refine below_set ?_ GE185.out) | exact HB.out)⟩
         (try clear HO_8)
         (try clear BK185)
         (try clear HB)
         generalize ((((w11.setCell ⟨gb185, 0, none⟩ (.bool ((rd_T39 l0 x9_1).f0))).setCell ⟨gb185, 1, none⟩ (.int .i64 ((rd_T39 l0 x9_1).f1.f0))).setCell ⟨gb185, 2, none⟩ (.int .i64 ((rd_T39 l0 x9_1).f1.f1))).setCell ⟨gb185, 3, none⟩ (.slice A184_3 ((rd_T39 l0 x9_1).f2).length c184_3)) = w35 at n0_ n1_ n2_ ⊢
         have HO_8 := n0_
         have BK185 := n1_
         have HB := n2_
         clear n0_ n1_ n2_
         have n0_ := am (Kd.R_drew HO_8.out)
         have n1_ := am (blk_drew BK185.out)
         have n2_ := am (below_drew1 HB.out)
         clear HO_8
         clear BK185
         clear HB
         have HO_8 := n0_
         have BK185 := n1_
         have HB := n2_
         clear n0_ n1_ n2_
         refine start_ (n := 39) (S := fun w' => w'.cell? ⟨gb185, 0, none⟩ = some (.bool ((rd_T39 l0 x9_1).f0)) ∧ w'.cell? ⟨gb185, 1, none⟩ = some (.int .i64 ((rd_T39 l0 x9_1).f1.f0)) ∧ w'.cell? ⟨gb185, 2, none⟩ = some (.int .i64 ((rd_T39 l0 x9_1).f1.f1)) ∧ w'.cell? ⟨gb185, 3, none⟩ = some (.slice A184_3 ((rd_T39 l0 x9_1).f2).length c184_3)) (ds := []) #[false, false, false, false, false, false, false, false, false, false, false, false, false, false, false, false, false, false, false, false, false, false, false, false, false, false, false, false, false, false, false, false, false, false, false, false, false, false, false] (by kernel_rfl) rfl rfl ⟨(blk_cell BK185.out 0).trans rfl, (blk_cell BK185.out 1).trans rfl, (blk_cell BK185.out 2).trans rfl, (blk_cell BK185.out 3).trans rfl⟩ (fun hHeld => ?_); refine with_tabW sennitlaw05_covers.tab7 sennitlaw05_covers.bits7 (fun HT_ HW_ => ?_)
         generalize w35.drew = w36 at HO_8 BK185 HB hHeld ⊢
         refine pN HT_.out 0 27 ?_
         refine pN HT_.out 1 28 ?_
         refine pN HT_.out 3 30 ?_
         refine take_ (i := 2) (N := some 29) (v := ?_) (a' := ?_) #[true, true, true, true, false, false, false, false, false, false, false, false, false, false, false, false, false, false, false, false, false, false, false, false, false, false, false, false, false, false, false, false, false, false, false, false, false, false, false] rfl rfl (take_ofW HT_.out HW_.out (by kernel_rfl)) (fun _ _ _ h => h) (Or.inl ⟨by rfl, ?_⟩) hHeld ?_ ?_
         rotate_left
         ·rintro w' ⟨s0, s1, s2, s3⟩
          go_simp
          with_reducible rfl
         rotate_left
         ·simp only [Act.put, List.setIfInBounds_toArray, List.set_cons_zero, List.set_cons_succ, i64_w, i32_w]
          rfl
         refine pN HT_.out 4 31 ?_
         refine pN HT_.out 5 32 ?_
         refine pU HT_.out 6 33 ?_
         refine pU HT_.out 7 34 ?_
         refine pU HT_.out 8 35 ?_
         refine pU HT_.out 9 36 ?_
         refine pU HT_.out 10 37 ?_
         refine pN HT_.out 11 38 ?_
         refine pN HT_.out 12 39 ?_
         refine pU HT_.out 13 40 ?_
         refine pU HT_.out 14 41 ?_
         refine pU HT_.out 15 42 ?_
         refine pU HT_.out 16 43 ?_
         refine pU HT_.out 17 44 ?_
         refine pU HT_.out 18 45 ?_
         refine pN HT_.out 19 46 ?_
         refine pN HT_.out 20 47 ?_
         refine pU HT_.out 21 48 ?_
         refine pU HT_.out 22 49 ?_
         refine pU HT_.out 23 50 ?_
         refine pU HT_.out 24 51 ?_
         refine pU HT_.out 25 52 ?_
         refine pU HT_.out 26 53 ?_
         refine pU HT_.out 27 54 ?_
         refine pU HT_.out 28 55 ?_
         refine pU HT_.out 29 56 ?_
         refine pU HT_.out 30 57 ?_
         refine pU HT_.out 31 58 ?_
         refine pU HT_.out 32 59 ?_
         refine pU HT_.out 33 60 ?_
         refine pN HT_.out 34 61 ?_
         refine pN HT_.out 35 62 ?_
         refine pU HT_.out 36 63 ?_
         refine pU HT_.out 37 64 ?_
         refine pN HT_.out 38 65 ?_
         refine done_ (done_of HT_.out (by kernel_rfl)) ?_
         try go_wp2
         go_meet
         case rel => exact ⟨_, (true), (by first | rfl | (simp; done) | (simp [*]; done)), H', ⟨by have := HK1.out; first | omega | exact Nat.le_refl _⟩, ⟨by (with_reducible repeat (first | apply rA | apply rN | apply rD)); exact HO_8.out⟩, ⟨by (with_reducible repeat (first | refine blk_drewN ?_ _ | refine blk_drew ?_ | refine blk_alloc ?_ _)); exact BK185.out⟩, ⟨by repeat (first | (with_reducible first | exact HB.out | apply below_alloc | apply pw_below_drewN | apply below_drew1 | refine below_set ?_ GE185.out) | exact HB.out)⟩⟩
       case rest =>
        clear HC10
        (try clear c1); (try clear p2); (try clear c3); (try clear c13); (try clear c13b0); (try clear c13b1); (try clear c17); (try clear c17b0); (try clear c17b1); (try clear c17b2); (try clear c18); (try clear c33)
        obtain ⟨kq, x65_9, rfl, HA, HJ9, HO_8, BK185, HB⟩ := hcut
        cases kq with
        | zero => exact absurd HA.out (by simp [sennitlaw05_covers.j1])
        | succ kj9 =>
         have H := HA.out
         clear HA
         simp only [sennitlaw05_covers.j1] at H
         by_cases c37 : x65_9 = true
         ·subst c37
          have H1 : (some false) = some r := by rw [if_pos rfl] at H; exact H
          clear H
          have H := H1
          clear H1
          obtain rfl := Option.some.inj H
          go_wp2
          go_ret
          exact ⟨by first | rfl | (simp [errW_none, errW_some] <;> rfl) | (simp [*, errW_none, errW_some] <;> rfl), by repeat (first | (with_reducible first | exact HB.out | apply below_alloc | apply pw_below_drewN | apply below_drew1 | refine below_set ?_ GE185.out) | exact HB.out)⟩
         ·replace c37 := Bool.eq_false_iff.mpr c37
          subst c37
          have H1 : (sennitlaw05_covers.l1 kj9 l0 a1 l2 ((rd_T39 l0 x9_1).f1.f1) x8_1 x9_1 0 ((rd_T39 l0 x9_1).f0) ((rd_T39 l0 x9_1).f1.f0) ((rd_T39 l0 x9_1).f1.f1) ((rd_T39 l0 x9_1).f2)) = some r := by rw [if_neg (show ¬ (false = true) by decide)] at H; exact H
          clear H
          have H := H1
          clear H1
          have H' := am H
          clear H
          have hcz38_0 : wc.cell? ⟨gb185, 0, none⟩ = some (.bool ((rd_T39 l0 x9_1).f0)) := (blk_cell BK185.out 0).trans rfl
          have hcz38_1 : wc.cell? ⟨gb185, 1, none⟩ = some (.int .i64 ((rd_T39 l0 x9_1).f1.f0)) := (blk_cell BK185.out 1).trans rfl
          have hcz38_2 : wc.cell? ⟨gb185, 2, none⟩ = some (.int .i64 ((rd_T39 l0 x9_1).f1.f1)) := (blk_cell BK185.out 2).trans rfl
          have hcz38_3 : wc.cell? ⟨gb185, 3, none⟩ = some (.slice A184_3 ((rd_T39 l0 x9_1).f2).length c184_3) := (blk_cell BK185.out 3).trans rfl
          have hfz38_0 := blk_frozen BK185.out 0
          have hfz38_1 := blk_frozen BK185.out 1
          have hfz38_2 := blk_frozen BK185.out 2
          have hfz38_3 := blk_frozen BK185.out 3
          go_wp2
          go_loopg [11] kj9 (fun kq v11 w' => ∃ (x8_3 : List Int) (x11_3 : Int), v11 = .int .i64 x11_3 ∧ Aside0 (sennitlaw05_covers.l1 kq l0 a1 l2 ((rd_T39 l0 x9_1).f1.f1) x8_3 x9_1 x11_3 ((rd_T39 l0 x9_1).f0) ((rd_T39 l0 x9_1).f1.f0) ((rd_T39 l0 x9_1).f1.f1) ((rd_T39 l0 x9_1).f2) = some r) ∧ Aside0 (kq ≤ kj9) ∧ Aside0 (Kd.R (Kd.int .i64) 3 w' w.heap.size (fun _ => True) v182 x8_3) ∧ Aside0 (w'.heap[gb185]? = some (.cells #[.bool ((rd_T39 l0 x9_1).f0), .int .i64 ((rd_T39 l0 x9_1).f1.f0), .int .i64 ((rd_T39 l0 x9_1).f1.f1), (.slice A184_3 ((rd_T39 l0 x9_1).f2).length c184_3)] 39 (0, 0))) ∧ Aside0 (Below w.heap.size w w'))
          case atStart => exact ⟨(x8_1), (0), (by first | rfl | (simp; done) | (simp [*]; done)), H', ⟨Nat.le_refl _⟩, ⟨by (with_reducible repeat (first | apply rA | apply rN | apply rD)); exact HO_8.out⟩, ⟨by (with_reducible repeat (first | refine blk_drewN ?_ _ | refine blk_drew ?_ | refine blk_alloc ?_ _)); exact BK185.out⟩, ⟨by repeat (first | (with_reducible first | exact HB.out | apply below_alloc | apply pw_below_drewN | apply below_drew1 | refine below_set ?_ GE185.out) | exact HB.out)⟩⟩
          case round =>
           clear H'
           (try clear c1); (try clear p2); (try clear c3); (try clear c13); (try clear c13b0); (try clear c13b1); (try clear c17); (try clear c17b0); (try clear c17b1); (try clear c17b2); (try clear c18); (try clear c33); (try clear c37); (try clear hcz38_0); (try clear hcz38_1); (try clear hcz38_2); (try clear hcz38_3); (try clear hfz38_0); (try clear hfz38_1); (try clear hfz38_2); (try clear hfz38_3); (try clear p2)
           obtain ⟨x8_3, x11_3, rfl, HA, HK3, HO_8, BK185, HB⟩ := hrel
           cases gk with
           | zero => exact absurd HA.out (by simp [sennitlaw05_covers.l1])
           | succ k3 =>
            have H := HA.out
            clear HA
            simp only [sennitlaw05_covers.l1] at H
            by_cases c39 : x11_3 < (l2.length : Int)
            ·rw [if_pos c39] at H
             have c39b0 : decide (x11_3 < (l2.length : Int)) = true := decide_eq_true c39
             clear c39
             by_cases c40 : 0 ≤ x11_3
             ·rw [if_pos c40] at H
              have c40b0 : decide (0 ≤ x11_3) = true := decide_eq_true c40
              clear c40
              by_cases c41 : x11_3 < (((rd_T39 l0 x9_1).f2).length : Int)
              ·rw [if_pos c41] at H
               have c41b0 : decide (x11_3 < (((rd_T39 l0 x9_1).f2).length : Int)) = true := decide_eq_true c41
               clear c41
               by_cases c42 : x11_3 < (x8_3.length : Int)
               ·rw [if_pos c42] at H
                have c42b0 : decide (x11_3 < (x8_3.length : Int)) = true := decide_eq_true c42
                clear c42
                by_cases c43 : ((rd_T36 ((rd_T39 l0 x9_1).f2) x11_3).f0) = (rd x8_3 x11_3)
                ·rw [if_pos c43] at H
                 have c43b0 : (((rd_T36 ((rd_T39 l0 x9_1).f2) x11_3).f0) == (rd x8_3 x11_3)) = true := beq_iff_eq.mpr c43
                 have c43b1 : (((rd_T36 ((rd_T39 l0 x9_1).f2) x11_3).f0) != (rd x8_3 x11_3)) = false := bne_eq_false_iff_eq.mpr c43
                 clear c43
                 by_cases c44 : ((rd_T36 ((rd_T39 l0 x9_1).f2) x11_3).f1) < ((rd_T36 ((rd_T39 l0 x9_1).f2) x11_3).f0)
                 ·rw [if_pos c44] at H
                  have c44b0 : decide (((rd_T36 ((rd_T39 l0 x9_1).f2) x11_3).f1) < ((rd_T36 ((rd_T39 l0 x9_1).f2) x11_3).f0)) = true := decide_eq_true c44
                  clear c44
                  obtain rfl := Option.some.inj H
                  have hcz45_0 : wr.cell? ⟨gb185, 0, none⟩ = some (.bool ((rd_T39 l0 x9_1).f0)) := (blk_cell BK185.out 0).trans rfl
                  have hcz45_1 : wr.cell? ⟨gb185, 1, none⟩ = some (.int .i64 ((rd_T39 l0 x9_1).f1.f0)) := (blk_cell BK185.out 1).trans rfl
                  have hcz45_2 : wr.cell? ⟨gb185, 2, none⟩ = some (.int .i64 ((rd_T39 l0 x9_1).f1.f1)) := (blk_cell BK185.out 2).trans rfl
                  have hcz45_3 : wr.cell? ⟨gb185, 3, none⟩ = some (.slice A184_3 ((rd_T39 l0 x9_1).f2).length c184_3) := (blk_cell BK185.out 3).trans rfl
                  have hfz45_0 := blk_frozen BK185.out 0
                  have hfz45_1 := blk_frozen BK185.out 1
                  have hfz45_2 := blk_frozen BK185.out 2
                  have hfz45_3 := blk_frozen BK185.out 3
                  have p189 : 0 ≤ (x11_3 : Int) := of_decide_eq_true (by first | (with_reducible assumption) | assumption)
                  have q189 : x11_3 < (((rd_T39 l0 x9_1).f2).length : Int) := of_decide_eq_true (by first | (with_reducible assumption) | assumption)
                  obtain ⟨ad189, e189, hx189_0, hx189_1⟩ := at_T36 HR184_3.out x11_3 p189 q189
                  cases e189
                  replace hx189_0 := (HB.out.cell (World.block_lt_of_cell? w _ hx189_0)).trans hx189_0
                  replace hx189_1 := (HB.out.cell (World.block_lt_of_cell? w _ hx189_1)).trans hx189_1
                  replace p189 := eq_true p189
                  replace q189 := eq_true q189
                  try go_wp2_with (first | ((with_reducible refine gate_dst (N := 12) rfl ?_); (try (refine gate_guard (by rfl) ?_; dsimp only)); refine box_event ?hg (N := 12) ?hd (cs := #[.int .i64 0, .int .i64 0]) (t := 36) ?hr ?_; (case hd => rfl); (case hg => rfl); (case hr => first | (go_simp; done) | (go_simp; rfl)); intro gb190 hg w46 hbox hb; have n0_ := am (Kd.R_below (by (with_reducible repeat (first | apply rA | apply rN | apply rD)); exact HO_8.out) hb); have n1_ := am (blk_below (g := gb185) (o := .cells #[.bool ((rd_T39 l0 x9_1).f0), .int .i64 ((rd_T39 l0 x9_1).f1.f0), .int .i64 ((rd_T39 l0 x9_1).f1.f1), .slice (some ad189) ((rd_T39 l0 x9_1).f2).length c184_3] 39 (0, 0)) (by (with_reducible repeat (first | refine blk_drewN ?_ _ | refine blk_drew ?_ | refine blk_alloc ?_ _)); exact BK185.out) hb); have n2_ := am (below_step (by repeat (first | (with_reducible first | exact HB.out | apply below_alloc | apply pw_below_drewN | apply below_drew1 | refine below_set ?_ GE185.out) | exact HB.out)) hb); have n3_ := am (hbox); have n4_ := am ((by rw [hg]; exact (below_size (by repeat (first | (with_reducible first | exact HB.out | apply below_alloc | apply pw_below_drewN | apply below_drew1 | refine below_set ?_ GE185.out) | exact HB.out))) : w.heap.size ≤ gb190)); have n5_ := am ((by rw [hg]; exact (below_size (by repeat (first | (with_reducible first | exact HB.out | apply below_alloc | apply pw_below_drewN | apply below_drew1 | refine below_set ?_ GE185.out) | exact HB.out))) : w.heap.size ≤ gb190)); have n6_ := am ((by rw [hg]; exact Nat.ne_of_lt (blk_lt (g := gb185) (o := .cells #[.bool ((rd_T39 l0 x9_1).f0), .int .i64 ((rd_T39 l0 x9_1).f1.f0), .int .i64 ((rd_T39 l0 x9_1).f1.f1), .slice (some ad189) ((rd_T39 l0 x9_1).f2).length c184_3] 39 (0, 0)) (by (with_reducible repeat (first | refine blk_drewN ?_ _ | refine blk_drew ?_ | refine blk_alloc ?_ _)); exact BK185.out)) : gb185 ≠ gb190)); have n7_ := am ((by rw [hg]; exact Nat.ne_of_gt (blk_lt (g := gb185) (o := .cells #[.bool ((rd_T39 l0 x9_1).f0), .int .i64 ((rd_T39 l0 x9_1).f1.f0), .int .i64 ((rd_T39 l0 x9_1).f1.f1), .slice (some ad189) ((rd_T39 l0 x9_1).f2).length c184_3] 39 (0, 0)) (by (with_reducible repeat (first | refine blk_drewN ?_ _ | refine blk_drew ?_ | refine blk_alloc ?_ _)); exact BK185.out)) : gb190 ≠ gb185)); clear HO_8; clear BK185; clear HB; have HO_8 := n0_; have BK185 := n1_; have HB := n2_; have BK190 := n3_; have GW190 := n4_; have GE190 := n5_; have NB185_190 := n6_; have NB190_185 := n7_; clear n0_ n1_ n2_ n3_ n4_ n5_ n6_ n7_; clear hb hbox hg; have hnb47 := NB190_185.out; have hnc47 := NB185_190.out; have hcz48_0 : w46.cell? ⟨gb190, 0, none⟩ = some (.int .i64 0) := (blk_cell BK190.out 0).trans rfl; have hcz48_1 : w46.cell? ⟨gb190, 1, none⟩ = some (.int .i64 0) := (blk_cell BK190.out 1).trans rfl; have hfz48_0 := blk_frozen BK190.out 0; have hfz48_1 := blk_frozen BK190.out 1))
                  have n0_ : Aside0 (Kd.R (Kd.int .i64) 3 ((w46.setCell ⟨gb190, 0, none⟩ (.int .i64 ((rd_T36 ((rd_T39 l0 x9_1).f2) x11_3).f0))).setCell ⟨gb190, 1, none⟩ (.int .i64 ((rd_T36 ((rd_T39 l0 x9_1).f2) x11_3).f1))) w.heap.size (fun _ => True) v182 x8_3) := ⟨by (with_reducible repeat (first | apply rA | apply rN | apply rD)); exact Kd.R_mono (Kd.R_far (p := ⟨gb190, 1, none⟩) (Kd.R_far (p := ⟨gb190, 0, none⟩) (Kd.R_types HO_8.out BK190.out (by decide)) (fun _ hk => hk.2) (.int .i64 ((rd_T36 ((rd_T39 l0 x9_1).f2) x11_3).f0))) (fun _ hk => hk.2) (.int .i64 ((rd_T36 ((rd_T39 l0 x9_1).f2) x11_3).f1))) (fun _ hk => trivial)⟩
                  have n1_ : Aside0 (((w46.setCell ⟨gb190, 0, none⟩ (.int .i64 ((rd_T36 ((rd_T39 l0 x9_1).f2) x11_3).f0))).setCell ⟨gb190, 1, none⟩ (.int .i64 ((rd_T36 ((rd_T39 l0 x9_1).f2) x11_3).f1))).heap[gb185]? = some (.cells #[.bool ((rd_T39 l0 x9_1).f0), .int .i64 ((rd_T39 l0 x9_1).f1.f0), .int .i64 ((rd_T39 l0 x9_1).f1.f1), .slice (some ad189) ((rd_T39 l0 x9_1).f2).length c184_3] 39 (0, 0))) := ⟨by (with_reducible repeat (first | refine blk_drewN ?_ _ | refine blk_drew ?_ | refine blk_alloc ?_ _)); refine blk_far ?_ NB185_190.out _; (with_reducible repeat (first | refine blk_drewN ?_ _ | refine blk_drew ?_ | refine blk_alloc ?_ _)); refine blk_far ?_ NB185_190.out _; (with_reducible repeat (first | refine blk_drewN ?_ _ | refine blk_drew ?_ | refine blk_alloc ?_ _)); exact BK185.out⟩
                  have n2_ : Aside0 (((w46.setCell ⟨gb190, 0, none⟩ (.int .i64 ((rd_T36 ((rd_T39 l0 x9_1).f2) x11_3).f0))).setCell ⟨gb190, 1, none⟩ (.int .i64 ((rd_T36 ((rd_T39 l0 x9_1).f2) x11_3).f1))).heap[gb190]? = some (.cells #[.int .i64 ((rd_T36 ((rd_T39 l0 x9_1).f2) x11_3).f0), .int .i64 ((rd_T36 ((rd_T39 l0 x9_1).f2) x11_3).f1)] 36 (0, 0))) := ⟨by (with_reducible repeat (first | refine blk_drewN ?_ _ | refine blk_drew ?_ | refine blk_alloc ?_ _)); refine blk_put (cs := #[.int .i64 ((rd_T36 ((rd_T39 l0 x9_1).f2) x11_3).f0), .int .i64 0]) ?_ 1 _ rfl; (with_reducible repeat (first | refine blk_drewN ?_ _ | refine blk_drew ?_ | refine blk_alloc ?_ _)); refine blk_put (cs := #[.int .i64 0, .int .i64 0]) ?_ 0 _ rfl; (with_reducible repeat (first | refine blk_drewN ?_ _ | refine blk_drew ?_ | refine blk_alloc ?_ _)); exact BK190.out⟩
                  have n3_ : Aside0 (Below w.heap.size w ((w46.setCell ⟨gb190, 0, none⟩ (.int .i64 ((rd_T36 ((rd_T39 l0 x9_1).f2) x11_3).f0))).setCell ⟨gb190, 1, none⟩ (.int .i64 ((rd_T36 ((rd_T39 l0 x9_1).f2) x11_3).f1)))) := ⟨by repeat (first | (with_reducible first | exact HB.out | apply below_alloc | apply pw_below_drewN | apply below_drew1 | refine below_set ?_ GE185.out | refine below_set ?_ GE190.out) | exact HB.out)⟩
                  (try clear HO_8)
                  (try clear BK185)
                  (try clear BK190)
                  (try clear HB)
                  generalize ((w46.setCell ⟨gb190, 0, none⟩ (.int .i64 ((rd_T36 ((rd_T39 l0 x9_1).f2) x11_3).f0))).setCell ⟨gb190, 1, none⟩ (.int .i64 ((rd_T36 ((rd_T39 l0 x9_1).f2) x11_3).f1))) = w49 at n0_ n1_ n2_ n3_ ⊢
                  have HO_8 := n0_
                  have BK185 := n1_
                  have BK190 := n2_
                  have HB := n3_
                  clear n0_ n1_ n2_ n3_
                  have n0_ := am (Kd.R_drew HO_8.out)
                  have n1_ := am (blk_drew BK185.out)
                  have n2_ := am (blk_drew BK190.out)
                  have n3_ := am (below_drew1 HB.out)
                  clear HO_8
                  clear BK185
                  clear BK190
                  clear HB
                  have HO_8 := n0_
                  have BK185 := n1_
                  have BK190 := n2_
                  have HB := n3_
                  clear n0_ n1_ n2_ n3_
                  obtain ⟨Ao51, co51, eo51⟩ := Kd.R_slice HO_8.out
                  (first | subst eo51 | (injection eo51 with f1_ f2_ f3_; have f4_ := f1_.symm; have f5_ := f3_.symm; clear f1_ f2_ f3_; subst f4_; subst f5_))
                  have p191 : 0 ≤ (x11_3 : Int) := of_decide_eq_true (by first | (with_reducible assumption) | assumption)
                  have q191 : x11_3 < (x8_3.length : Int) := of_decide_eq_true (by first | (with_reducible assumption) | assumption)
                  obtain ⟨ad191, e191, hx191_0⟩ := Kd.at_int (Kd.R_reads' HO_8.out).2.2 x11_3 p191 q191
                  cases e191
                  replace p191 := eq_true p191
                  replace q191 := eq_true q191
                  refine start_ (n := 33) (S := fun w' => w'.cell? ⟨gb190, 0, none⟩ = some (.int .i64 ((rd_T36 ((rd_T39 l0 x9_1).f2) x11_3).f0)) ∧ w'.cell? ⟨gb190, 1, none⟩ = some (.int .i64 ((rd_T36 ((rd_T39 l0 x9_1).f2) x11_3).f1)) ∧ w'.cell? (ad191.add (x11_3).toNat) = some (.int .i64 (rd x8_3 x11_3))) (ds := []) #[false, false, false, false, false, false, false, false, false, false, false, false, false, false, false, false, false, false, false, false, false, false, false, false, false, false, false, false, false, false, false, false, false] (by kernel_rfl) rfl rfl ⟨(blk_cell BK190.out 0).trans rfl, (blk_cell BK190.out 1).trans rfl, hx191_0⟩ (fun hHeld => ?_); refine with_tabW sennitlaw05_covers.tab14 sennitlaw05_covers.bits14 (fun HT_ HW_ => ?_)
                  generalize w49.drew = w50 at HO_8 BK185 BK190 HB hx191_0 hHeld ⊢
                  refine pN HT_.out 0 80 ?_
                  refine pN HT_.out 2 82 ?_
                  refine pN HT_.out 3 83 ?_
                  refine pN HT_.out 4 84 ?_
                  refine take_ (i := 1) (N := some 81) (v := ?_) (a' := ?_) #[true, true, true, true, true, false, false, false, false, false, false, false, false, false, false, false, false, false, false, false, false, false, false, false, false, false, false, false, false, false, false, false, false] rfl rfl (take_ofW HT_.out HW_.out (by kernel_rfl)) (fun _ _ _ h => h) (Or.inl ⟨by rfl, ?_⟩) hHeld ?_ ?_
                  rotate_left
                  ·rintro w' ⟨s0, s1, s2⟩
                   go_simp
                   with_reducible rfl
                  rotate_left
                  ·simp only [Act.put, List.setIfInBounds_toArray, List.set_cons_zero, List.set_cons_succ, i64_w, i32_w]
                   rfl
                  refine take_ (i := 5) (N := some 85) (v := ?_) (a' := ?_) #[true, true, true, true, true, true, false, false, false, false, false, false, false, false, false, false, false, false, false, false, false, false, false, false, false, false, false, false, false, false, false, false, false] rfl rfl (take_ofW HT_.out HW_.out (by kernel_rfl)) (fun _ _ _ h => h) (Or.inl ⟨by rfl, ?_⟩) hHeld ?_ ?_
                  rotate_left
                  ·rintro w' ⟨s0, s1, s2⟩
                   go_simp
                   with_reducible rfl
                  rotate_left
                  ·simp only [Act.put, List.setIfInBounds_toArray, List.set_cons_zero, List.set_cons_succ, i64_w, i32_w]
                   rfl
                  refine pN HT_.out 6 86 ?_
                  refine pN HT_.out 7 87 ?_
                  refine pN HT_.out 8 88 ?_
                  refine pN HT_.out 10 90 ?_
                  refine take_ (i := 9) (N := some 89) (v := ?_) (a' := ?_) #[true, true, true, true, true, true, true, true, true, true, true, false, false, false, false, false, false, false, false, false, false, false, false, false, false, false, false, false, false, false, false, false, false] rfl rfl (take_ofW HT_.out HW_.out (by kernel_rfl)) (fun _ _ _ h => h) (Or.inl ⟨by rfl, ?_⟩) hHeld ?_ ?_
                  rotate_left
                  ·rintro w' ⟨s0, s1, s2⟩
                   go_simp
                   with_reducible rfl
                  rotate_left
                  ·simp only [Act.put, List.setIfInBounds_toArray, List.set_cons_zero, List.set_cons_succ, i64_w, i32_w]
                   rfl
                  refine take_ (i := 11) (N := some 91) (v := ?_) (a' := ?_) #[true, true, true, true, true, true, true, true, true, true, true, true, false, false, false, false, false, false, false, false, false, false, false, false, false, false, false, false, false, false, false, false, false] rfl rfl (take_ofW HT_.out HW_.out (by kernel_rfl)) (fun _ _ _ h => h) (Or.inl ⟨by rfl, ?_⟩) hHeld ?_ ?_
                  rotate_left
                  ·rintro w' ⟨s0, s1, s2⟩
                   go_simp
                   with_reducible rfl
                  rotate_left
                  ·simp only [Act.put, List.setIfInBounds_toArray, List.set_cons_zero, List.set_cons_succ, i64_w, i32_w]
                   rfl
                  refine pN HT_.out 12 92 ?_
                  refine pN HT_.out 13 93 ?_
                  refine pN HT_.out 14 94 ?_
                  refine pU HT_.out 15 95 ?_
                  refine pU HT_.out 16 96 ?_
                  refine pU HT_.out 17 97 ?_
                  refine pU HT_.out 18 98 ?_
                  refine pU HT_.out 19 99 ?_
                  refine pU HT_.out 20 100 ?_
                  refine pU HT_.out 21 101 ?_
                  refine pU HT_.out 22 102 ?_
                  refine pU HT_.out 23 103 ?_
                  refine pU HT_.out 24 104 ?_
                  refine pU HT_.out 25 105 ?_
                  refine pU HT_.out 26 106 ?_
                  refine pU HT_.out 27 107 ?_
                  refine pU HT_.out 28 108 ?_
                  refine pU HT_.out 29 109 ?_
                  refine pU HT_.out 30 110 ?_
                  refine pU HT_.out 31 111 ?_
                  refine pN HT_.out 32 112 ?_
                  refine done_ (done_of HT_.out (by kernel_rfl)) ?_
                  try go_wp2
                  go_ret
                  exact ⟨by first | rfl | (simp [errW_none, errW_some] <;> rfl) | (simp [*, errW_none, errW_some] <;> rfl), by repeat (first | (with_reducible first | exact HB.out | apply below_alloc | apply pw_below_drewN | apply below_drew1 | refine below_set ?_ GE185.out | refine below_set ?_ GE190.out) | exact HB.out)⟩
                 ·rw [if_neg c44] at H
                  have c44b0 : decide (((rd_T36 ((rd_T39 l0 x9_1).f2) x11_3).f1) < ((rd_T36 ((rd_T39 l0 x9_1).f2) x11_3).f0)) = false := decide_eq_false c44
                  clear c44
                  by_cases c52 : ((rd_T39 l0 x9_1).f0) = true
                  ·rw [if_pos c52] at H
                   have c52b0 : ((rd_T39 l0 x9_1).f0) = true := c52
                   clear c52
                   by_cases c53 : (wrap64 (((rd_T36 ((rd_T39 l0 x9_1).f2) x11_3).f1) - ((rd_T36 ((rd_T39 l0 x9_1).f2) x11_3).f0))) = (wrap64 (((rd_T39 l0 x9_1).f1.f1) - ((rd_T39 l0 x9_1).f1.f0)))
                   ·rw [if_pos c53] at H
                    have c53b0 : ((wrap64 (((rd_T36 ((rd_T39 l0 x9_1).f2) x11_3).f1) - ((rd_T36 ((rd_T39 l0 x9_1).f2) x11_3).f0))) == (wrap64 (((rd_T39 l0 x9_1).f1.f1) - ((rd_T39 l0 x9_1).f1.f0)))) = true := beq_iff_eq.mpr c53
                    have c53b1 : ((wrap64 (((rd_T36 ((rd_T39 l0 x9_1).f2) x11_3).f1) - ((rd_T36 ((rd_T39 l0 x9_1).f2) x11_3).f0))) != (wrap64 (((rd_T39 l0 x9_1).f1.f1) - ((rd_T39 l0 x9_1).f1.f0)))) = false := bne_eq_false_iff_eq.mpr c53
                    clear c53
                    obtain ⟨y192, hy192⟩ : ∃ y_ : List Int, y_ = (x8_3.set (x11_3 : Int).toNat ((rd_T36 ((rd_T39 l0 x9_1).f2) x11_3).f1)) := ⟨_, rfl⟩
                    replace H : (sennitlaw05_covers.l1 k3 l0 a1 l2 ((rd_T39 l0 x9_1).f1.f1) y192 x9_1 (wrap64 (x11_3 + 1)) ((rd_T39 l0 x9_1).f0) ((rd_T39 l0 x9_1).f1.f0) ((rd_T39 l0 x9_1).f1.f1) ((rd_T39 l0 x9_1).f2)) = some r := by first | (rw [hy192]; with_reducible exact H) | (have H2_ := (Option.bind_some _ _).symm.trans H; rw [hy192]; with_reducible exact H2_) | (have H2_ := (Option.bind_some _ _).symm.trans H; with_reducible exact H2_) | with_reducible exact H | (rw [hy192]; exact H) | exact H
                    have Ny192 := am hy192
                    clear hy192
                    have H' := am H
                    clear H
                    have hcz55_0 : wr.cell? ⟨gb185, 0, none⟩ = some (.bool ((rd_T39 l0 x9_1).f0)) := (blk_cell BK185.out 0).trans rfl
                    have hcz55_1 : wr.cell? ⟨gb185, 1, none⟩ = some (.int .i64 ((rd_T39 l0 x9_1).f1.f0)) := (blk_cell BK185.out 1).trans rfl
                    have hcz55_2 : wr.cell? ⟨gb185, 2, none⟩ = some (.int .i64 ((rd_T39 l0 x9_1).f1.f1)) := (blk_cell BK185.out 2).trans rfl
                    have hcz55_3 : wr.cell? ⟨gb185, 3, none⟩ = some (.slice A184_3 ((rd_T39 l0 x9_1).f2).length c184_3) := (blk_cell BK185.out 3).trans rfl
                    have hfz55_0 := blk_frozen BK185.out 0
                    have hfz55_1 := blk_frozen BK185.out 1
                    have hfz55_2 := blk_frozen BK185.out 2
                    have hfz55_3 := blk_frozen BK185.out 3
                    have p189 : 0 ≤ (x11_3 : Int) := of_decide_eq_true (by first | (with_reducible assumption) | assumption)
                    have q189 : x11_3 < (((rd_T39 l0 x9_1).f2).length : Int) := of_decide_eq_true (by first | (with_reducible assumption) | assumption)
                    obtain ⟨ad189, e189, hx189_0, hx189_1⟩ := at_T36 HR184_3.out x11_3 p189 q189
                    cases e189
                    replace hx189_0 := (HB.out.cell (World.block_lt_of_cell? w _ hx189_0)).trans hx189_0
                    replace hx189_1 := (HB.out.cell (World.block_lt_of_cell? w _ hx189_1)).trans hx189_1
                    replace p189 := eq_true p189
                    replace q189 := eq_true q189
                    try go_wp2_with (first | ((with_reducible refine gate_dst (N := 12) rfl ?_); (try (refine gate_guard (by rfl) ?_; dsimp only)); refine box_event ?hg (N := 12) ?hd (cs := #[.int .i64 0, .int .i64 0]) (t := 36) ?hr ?_; (case hd => rfl); (case hg => rfl); (case hr => first | (go_simp; done) | (go_simp; rfl)); intro gb190 hg w56 hbox hb; have n0_ := am (Kd.R_below (by (with_reducible repeat (first | apply rA | apply rN | apply rD)); exact HO_8.out) hb); have n1_ := am (blk_below (g := gb185) (o := .cells #[.bool ((rd_T39 l0 x9_1).f0), .int .i64 ((rd_T39 l0 x9_1).f1.f0), .int .i64 ((rd_T39 l0 x9_1).f1.f1), .slice (some ad189) ((rd_T39 l0 x9_1).f2).length c184_3] 39 (0, 0)) (by (with_reducible repeat (first | refine blk_drewN ?_ _ | refine blk_drew ?_ | refine blk_alloc ?_ _)); exact BK185.out) hb); have n2_ := am (below_step (by repeat (first | (with_reducible first | exact HB.out | apply below_alloc | apply pw_below_drewN | apply below_drew1 | refine below_set ?_ GE185.out) | exact HB.out)) hb); have n3_ := am (hbox); have n4_ := am ((by rw [hg]; exact (below_size (by repeat (first | (with_reducible first | exact HB.out | apply below_alloc | apply pw_below_drewN | apply below_drew1 | refine below_set ?_ GE185.out) | exact HB.out))) : w.heap.size ≤ gb190)); have n5_ := am ((by rw [hg]; exact (below_size (by repeat (first | (with_reducible first | exact HB.out | apply below_alloc | apply pw_below_drewN | apply below_drew1 | refine below_set ?_ GE185.out) | exact HB.out))) : w.heap.size ≤ gb190)); have n6_ := am ((by rw [hg]; exact Nat.ne_of_lt (blk_lt (g := gb185) (o := .cells #[.bool ((rd_T39 l0 x9_1).f0), .int .i64 ((rd_T39 l0 x9_1).f1.f0), .int .i64 ((rd_T39 l0 x9_1).f1.f1), .slice (some ad189) ((rd_T39 l0 x9_1).f2).length c184_3] 39 (0, 0)) (by (with_reducible repeat (first | refine blk_drewN ?_ _ | refine blk_drew ?_ | refine blk_alloc ?_ _)); exact BK185.out)) : gb185 ≠ gb190)); have n7_ := am ((by rw [hg]; exact Nat.ne_of_gt (blk_lt (g := gb185) (o := .cells #[.bool ((rd_T39 l0 x9_1).f0), .int .i64 ((rd_T39 l0 x9_1).f1.f0), .int .i64 ((rd_T39 l0 x9_1).f1.f1), .slice (some ad189) ((rd_T39 l0 x9_1).f2).length c184_3] 39 (0, 0)) (by (with_reducible repeat (first | refine blk_drewN ?_ _ | refine blk_drew ?_ | refine blk_alloc ?_ _)); exact BK185.out)) : gb190 ≠ gb185)); clear HO_8; clear BK185; clear HB; have HO_8 := n0_; have BK185 := n1_; have HB := n2_; have BK190 := n3_; have GW190 := n4_; have GE190 := n5_; have NB185_190 := n6_; have NB190_185 := n7_; clear n0_ n1_ n2_ n3_ n4_ n5_ n6_ n7_; clear hb hbox hg; have hnb57 := NB190_185.out; have hnc57 := NB185_190.out; have hcz58_0 : w56.cell? ⟨gb190, 0, none⟩ = some (.int .i64 0) := (blk_cell BK190.out 0).trans rfl; have hcz58_1 : w56.cell? ⟨gb190, 1, none⟩ = some (.int .i64 0) := (blk_cell BK190.out 1).trans rfl; have hfz58_0 := blk_frozen BK190.out 0; have hfz58_1 := blk_frozen BK190.out 1))
                    have n0_ : Aside0 (Kd.R (Kd.int .i64) 3 ((w56.setCell ⟨gb190, 0, none⟩ (.int .i64 ((rd_T36 ((rd_T39 l0 x9_1).f2) x11_3).f0))).setCell ⟨gb190, 1, none⟩ (.int .i64 ((rd_T36 ((rd_T39 l0 x9_1).f2) x11_3).f1))) w.heap.size (fun _ => True) v182 x8_3) := ⟨by (with_reducible repeat (first | apply rA | apply rN | apply rD)); exact Kd.R_mono (Kd.R_far (p := ⟨gb190, 1, none⟩) (Kd.R_far (p := ⟨gb190, 0, none⟩) (Kd.R_types HO_8.out BK190.out (by decide)) (fun _ hk => hk.2) (.int .i64 ((rd_T36 ((rd_T39 l0 x9_1).f2) x11_3).f0))) (fun _ hk => hk.2) (.int .i64 ((rd_T36 ((rd_T39 l0 x9_1).f2) x11_3).f1))) (fun _ hk => trivial)⟩
                    have n1_ : Aside0 (((w56.setCell ⟨gb190, 0, none⟩ (.int .i64 ((rd_T36 ((rd_T39 l0 x9_1).f2) x11_3).f0))).setCell ⟨gb190, 1, none⟩ (.int .i64 ((rd_T36 ((rd_T39 l0 x9_1).f2) x11_3).f1))).heap[gb185]? = some (.cells #[.bool ((rd_T39 l0 x9_1).f0), .int .i64 ((rd_T39 l0 x9_1).f1.f0), .int .i64 ((rd_T39 l0 x9_1).f1.f1), .slice (some ad189) ((rd_T39 l0 x9_1).f2).length c184_3] 39 (0, 0))) := ⟨by (with_reducible repeat (first | refine blk_drewN ?_ _ | refine blk_drew ?_ | refine blk_alloc ?_ _)); refine blk_far ?_ NB185_190.out _; (with_reducible repeat (first | refine blk_drewN ?_ _ | refine blk_drew ?_ | refine blk_alloc ?_ _)); refine blk_far ?_ NB185_190.out _; (with_reducible repeat (first | refine blk_drewN ?_ _ | refine blk_drew ?_ | refine blk_alloc ?_ _)); exact BK185.out⟩
                    have n2_ : Aside0 (((w56.setCell ⟨gb190, 0, none⟩ (.int .i64 ((rd_T36 ((rd_T39 l0 x9_1).f2) x11_3).f0))).setCell ⟨gb190, 1, none⟩ (.int .i64 ((rd_T36 ((rd_T39 l0 x9_1).f2) x11_3).f1))).heap[gb190]? = some (.cells #[.int .i64 ((rd_T36 ((rd_T39 l0 x9_1).f2) x11_3).f0), .int .i64 ((rd_T36 ((rd_T39 l0 x9_1).f2) x11_3).f1)] 36 (0, 0))) := ⟨by (with_reducible repeat (first | refine blk_drewN ?_ _ | refine blk_drew ?_ | refine blk_alloc ?_ _)); refine blk_put (cs := #[.int .i64 ((rd_T36 ((rd_T39 l0 x9_1).f2) x11_3).f0), .int .i64 0]) ?_ 1 _ rfl; (with_reducible repeat (first | refine blk_drewN ?_ _ | refine blk_drew ?_ | refine blk_alloc ?_ _)); refine blk_put (cs := #[.int .i64 0, .int .i64 0]) ?_ 0 _ rfl; (with_reducible repeat (first | refine blk_drewN ?_ _ | refine blk_drew ?_ | refine blk_alloc ?_ _)); exact BK190.out⟩
                    have n3_ : Aside0 (Below w.heap.size w ((w56.setCell ⟨gb190, 0, none⟩ (.int .i64 ((rd_T36 ((rd_T39 l0 x9_1).f2) x11_3).f0))).setCell ⟨gb190, 1, none⟩ (.int .i64 ((rd_T36 ((rd_T39 l0 x9_1).f2) x11_3).f1)))) := ⟨by repeat (first | (with_reducible first | exact HB.out | apply below_alloc | apply pw_below_drewN | apply below_drew1 | refine below_set ?_ GE185.out | refine below_set ?_ GE190.out) | exact HB.out)⟩
                    (try clear HO_8)
                    (try clear BK185)
                    (try clear BK190)
                    (try clear HB)
                    generalize ((w56.setCell ⟨gb190, 0, none⟩ (.int .i64 ((rd_T36 ((rd_T39 l0 x9_1).f2) x11_3).f0))).setCell ⟨gb190, 1, none⟩ (.int .i64 ((rd_T36 ((rd_T39 l0 x9_1).f2) x11_3).f1))) = w59 at n0_ n1_ n2_ n3_ ⊢
                    have HO_8 := n0_
                    have BK185 := n1_
                    have BK190 := n2_
                    have HB := n3_
                    clear n0_ n1_ n2_ n3_
                    have n0_ := am (Kd.R_drew HO_8.out)
                    have n1_ := am (blk_drew BK185.out)
                    have n2_ := am (blk_drew BK190.out)
                    have n3_ := am (below_drew1 HB.out)
                    clear HO_8
                    clear BK185
                    clear BK190
                    clear HB
                    have HO_8 := n0_
                    have BK185 := n1_
                    have BK190 := n2_
                    have HB := n3_
                    clear n0_ n1_ n2_ n3_
                    obtain ⟨Ao61, co61, eo61⟩ := Kd.R_slice HO_8.out
                    (first | subst eo61 | (injection eo61 with f1_ f2_ f3_; have f4_ := f1_.symm; have f5_ := f3_.symm; clear f1_ f2_ f3_; subst f4_; subst f5_))
                    have p191 : 0 ≤ (x11_3 : Int) := of_decide_eq_true (by first | (with_reducible assumption) | assumption)
                    have q191 : x11_3 < (x8_3.length : Int) := of_decide_eq_true (by first | (with_reducible assumption) | assumption)
                    obtain ⟨ad191, e191, hx191_0⟩ := Kd.at_int (Kd.R_reads' HO_8.out).2.2 x11_3 p191 q191
                    cases e191
                    replace p191 := eq_true p191
                    replace q191 := eq_true q191
                    refine start_ (n := 33) (S := fun w' => w'.cell? ⟨gb190, 0, none⟩ = some (.int .i64 ((rd_T36 ((rd_T39 l0 x9_1).f2) x11_3).f0)) ∧ w'.cell? ⟨gb190, 1, none⟩ = some (.int .i64 ((rd_T36 ((rd_T39 l0 x9_1).f2) x11_3).f1)) ∧ w'.cell? ⟨gb185, 0, none⟩ = some (.bool ((rd_T39 l0 x9_1).f0)) ∧ w'.cell? ⟨gb185, 1, none⟩ = some (.int .i64 ((rd_T39 l0 x9_1).f1.f0)) ∧ w'.cell? ⟨gb185, 2, none⟩ = some (.int .i64 ((rd_T39 l0 x9_1).f1.f1)) ∧ w'.cell? ⟨gb185, 3, none⟩ = some (.slice (some ad189) ((rd_T39 l0 x9_1).f2).length c184_3) ∧ w'.cell? (ad191.add (x11_3).toNat) = some (.int .i64 (rd x8_3 x11_3))) (ds := []) #[false, false, false, false, false, false, false, false, false, false, false, false, false, false, false, false, false, false, false, false, false, false, false, false, false, false, false, false, false, false, false, false, false] (by kernel_rfl) rfl rfl ⟨(blk_cell BK190.out 0).trans rfl, (blk_cell BK190.out 1).trans rfl, (blk_cell BK185.out 0).trans rfl, (blk_cell BK185.out 1).trans rfl, (blk_cell BK185.out 2).trans rfl, (blk_cell BK185.out 3).trans rfl, hx191_0⟩ (fun hHeld => ?_); refine with_tabW sennitlaw05_covers.tab14 sennitlaw05_covers.bits14 (fun HT_ HW_ => ?_)
                    generalize w59.drew = w60 at HO_8 BK185 BK190 HB hx191_0 hHeld ⊢
                    refine pN HT_.out 0 80 ?_
                    refine pN HT_.out 2 82 ?_
                    refine pN HT_.out 3 83 ?_
                    refine pN HT_.out 4 84 ?_
                    refine take_ (i := 1) (N := some 81) (v := ?_) (a' := ?_) #[true, true, true, true, true, false, false, false, false, false, false, false, false, false, false, false, false, false, false, false, false, false, false, false, false, false, false, false, false, false, false, false, false] rfl rfl (take_ofW HT_.out HW_.out (by kernel_rfl)) (fun _ _ _ h => h) (Or.inl ⟨by rfl, ?_⟩) hHeld ?_ ?_
                    rotate_left
                    ·rintro w' ⟨s0, s1, s2, s3, s4, s5, s6⟩
                     go_simp
                     with_reducible rfl
                    rotate_left
                    ·simp only [Act.put, List.setIfInBounds_toArray, List.set_cons_zero, List.set_cons_succ, i64_w, i32_w]
                     rfl
                    refine take_ (i := 5) (N := some 85) (v := ?_) (a' := ?_) #[true, true, true, true, true, true, false, false, false, false, false, false, false, false, false, false, false, false, false, false, false, false, false, false, false, false, false, false, false, false, false, false, false] rfl rfl (take_ofW HT_.out HW_.out (by kernel_rfl)) (fun _ _ _ h => h) (Or.inl ⟨by rfl, ?_⟩) hHeld ?_ ?_
                    rotate_left
                    ·rintro w' ⟨s0, s1, s2, s3, s4, s5, s6⟩
                     go_simp
                     with_reducible rfl
                    rotate_left
                    ·simp only [Act.put, List.setIfInBounds_toArray, List.set_cons_zero, List.set_cons_succ, i64_w, i32_w]
                     rfl
                    refine pN HT_.out 6 86 ?_
                    refine pN HT_.out 7 87 ?_
                    refine pN HT_.out 8 88 ?_
                    refine pN HT_.out 10 90 ?_
                    refine take_ (i := 9) (N := some 89) (v := ?_) (a' := ?_) #[true, true, true, true, true, true, true, true, true, true, true, false, false, false, false, false, false, false, false, false, false, false, false, false, false, false, false, false, false, false, false, false, false] rfl rfl (take_ofW HT_.out HW_.out (by kernel_rfl)) (fun _ _ _ h => h) (Or.inl ⟨by rfl, ?_⟩) hHeld ?_ ?_
                    rotate_left
                    ·rintro w' ⟨s0, s1, s2, s3, s4, s5, s6⟩
                     go_simp
                     with_reducible rfl
                    rotate_left
                    ·simp only [Act.put, List.setIfInBounds_toArray, List.set_cons_zero, List.set_cons_succ, i64_w, i32_w]
                     rfl
                    refine take_ (i := 11) (N := some 91) (v := ?_) (a' := ?_) #[true, true, true, true, true, true, true, true, true, true, true, true, false, false, false, false, false, false, false, false, false, false, false, false, false, false, false, false, false, false, false, false, false] rfl rfl (take_ofW HT_.out HW_.out (by kernel_rfl)) (fun _ _ _ h => h) (Or.inl ⟨by rfl, ?_⟩) hHeld ?_ ?_
                    rotate_left
                    ·rintro w' ⟨s0, s1, s2, s3, s4, s5, s6⟩
                     go_simp
                     with_reducible rfl
                    rotate_left
                    ·simp only [Act.put, List.setIfInBounds_toArray, List.set_cons_zero, List.set_cons_succ, i64_w, i32_w]
                     rfl
                    refine pN HT_.out 12 92 ?_
                    refine pN HT_.out 13 93 ?_
                    refine pN HT_.out 14 94 ?_
                    refine pN HT_.out 15 95 ?_
                    refine take_ (i := 16) (N := some 96) (v := ?_) (a' := ?_) #[true, true, true, true, true, true, true, true, true, true, true, true, true, true, true, true, true, false, false, false, false, false, false, false, false, false, false, false, false, false, false, false, false] rfl rfl (take_ofW HT_.out HW_.out (by kernel_rfl)) (fun _ _ _ h => h) (Or.inl ⟨by rfl, ?_⟩) hHeld ?_ ?_
                    rotate_left
                    ·rintro w' ⟨s0, s1, s2, s3, s4, s5, s6⟩
                     go_simp
                     with_reducible rfl
                    rotate_left
                    ·simp only [Act.put, List.setIfInBounds_toArray, List.set_cons_zero, List.set_cons_succ, i64_w, i32_w]
                     rfl
                    refine pN HT_.out 17 97 ?_
                    refine pN HT_.out 18 98 ?_
                    refine pN HT_.out 20 100 ?_
                    refine pN HT_.out 23 103 ?_
                    refine pN HT_.out 24 104 ?_
                    refine pN HT_.out 26 106 ?_
                    refine pN HT_.out 27 107 ?_
                    refine take_ (i := 19) (N := some 99) (v := ?_) (a' := ?_) #[true, true, true, true, true, true, true, true, true, true, true, true, true, true, true, true, true, true, true, true, true, false, false, true, true, false, true, true, false, false, false, false, false] rfl rfl (take_ofW HT_.out HW_.out (by kernel_rfl)) (fun _ _ _ h => h) (Or.inl ⟨by rfl, ?_⟩) hHeld ?_ ?_
                    rotate_left
                    ·rintro w' ⟨s0, s1, s2, s3, s4, s5, s6⟩
                     go_simp
                     with_reducible rfl
                    rotate_left
                    ·simp only [Act.put, List.setIfInBounds_toArray, List.set_cons_zero, List.set_cons_succ, i64_w, i32_w]
                     rfl
                    refine take_ (i := 21) (N := some 101) (v := ?_) (a' := ?_) #[true, true, true, true, true, true, true, true, true, true, true, true, true, true, true, true, true, true, true, true, true, true, false, true, true, false, true, true, false, false, false, false, false] rfl rfl (take_ofW HT_.out HW_.out (by kernel_rfl)) (fun _ _ _ h => h) (Or.inl ⟨by rfl, ?_⟩) hHeld ?_ ?_
                    rotate_left
                    ·rintro w' ⟨s0, s1, s2, s3, s4, s5, s6⟩
                     go_simp
                     with_reducible rfl
                    rotate_left
                    ·simp only [Act.put, List.setIfInBounds_toArray, List.set_cons_zero, List.set_cons_succ, i64_w, i32_w]
                     rfl
                    refine pN HT_.out 22 102 ?_
                    refine take_ (i := 25) (N := some 105) (v := ?_) (a' := ?_) #[true, true, true, true, true, true, true, true, true, true, true, true, true, true, true, true, true, true, true, true, true, true, true, true, true, true, true, true, false, false, false, false, false] rfl rfl (take_ofW HT_.out HW_.out (by kernel_rfl)) (fun _ _ _ h => h) (Or.inl ⟨by rfl, ?_⟩) hHeld ?_ ?_
                    rotate_left
                    ·rintro w' ⟨s0, s1, s2, s3, s4, s5, s6⟩
                     go_simp
                     with_reducible rfl
                    rotate_left
                    ·simp only [Act.put, List.setIfInBounds_toArray, List.set_cons_zero, List.set_cons_succ, i64_w, i32_w]
                     rfl
                    refine take_ (i := 28) (N := some 108) (v := ?_) (a' := ?_) #[true, true, true, true, true, true, true, true, true, true, true, true, true, true, true, true, true, true, true, true, true, true, true, true, true, true, true, true, true, false, false, false, false] rfl rfl (take_ofW HT_.out HW_.out (by kernel_rfl)) (fun _ _ _ h => h) (Or.inl ⟨by rfl, ?_⟩) hHeld ?_ ?_
                    rotate_left
                    ·rintro w' ⟨s0, s1, s2, s3, s4, s5, s6⟩
                     go_simp
                     with_reducible rfl
                    rotate_left
                    ·simp only [Act.put, List.setIfInBounds_toArray, List.set_cons_zero, List.set_cons_succ, i64_w, i32_w]
                     rfl
                    refine pN HT_.out 29 109 ?_
                    refine pN HT_.out 30 110 ?_
                    refine pN HT_.out 31 111 ?_
                    refine pN HT_.out 32 112 ?_
                    refine done_ (done_of HT_.out (by kernel_rfl)) ?_
                    have hcz62_0 : w60.cell? ⟨gb190, 0, none⟩ = some (.int .i64 ((rd_T36 ((rd_T39 l0 x9_1).f2) x11_3).f0)) := (blk_cell BK190.out 0).trans rfl
                    have hcz62_1 : w60.cell? ⟨gb190, 1, none⟩ = some (.int .i64 ((rd_T36 ((rd_T39 l0 x9_1).f2) x11_3).f1)) := (blk_cell BK190.out 1).trans rfl
                    have hfz62_0 := blk_frozen BK190.out 0
                    have hfz62_1 := blk_frozen BK190.out 1
                    have p54 : 0 ≤ (x11_3 : Int) := of_decide_eq_true (by first | (with_reducible assumption) | assumption)
                    have q54 : (x11_3 : Int) < ((x8_3.length : Int) : Int) := of_decide_eq_true (by first | (with_reducible assumption) | assumption)
                    obtain ⟨go54, co54, eo54, gb54, gl54, cl54, HG54⟩ := Kd.R_form HO_8.out (by omega)
                    (first | cases eo54 | (injection eo54 with ea_ en_ ec_; (first | subst ea_ | (injection ea_ with ea_; subst ea_)); subst ec_; clear en_))
                    have GB54 := am gb54
                    have GG54 := am HG54
                    clear gb54 gl54 HG54
                    (first | simp only [add_plain] at hx191_0 | skip)
                    obtain ⟨hx54_0, hf54_0⟩ := Kd.R_celln 0 HO_8.out (x11_3 : Int) p54 q54
                    replace p54 := eq_true p54
                    replace q54 := eq_true q54
                    obtain ⟨hy63_, hz63_⟩ := Kd.R_celln 0 HO_8.out (x11_3 : Int) (of_decide_eq_true (by first | (with_reducible assumption) | assumption)) (of_decide_eq_true (by first | (with_reducible assumption) | assumption))
                    have HP63 := Kd.R_putg HO_8.out (x11_3 : Int) ((rd_T36 ((rd_T39 l0 x9_1).f2) x11_3).f1)
                    try go_wp2_with (first | ((with_reducible refine gate_store (t := 3) (p := 117) rfl ?_); refine store_event (t := 3) (p := 117) (v := ?vo_w64) (w1 := (w60.setCell ⟨go54, (x11_3 : Int).toNat, none⟩ (.int .i64 ((rd_T36 ((rd_T39 l0 x9_1).f2) x11_3).f1)))) ?hg ?ho ?hn ?hr ?_; (case ho => rfl); (case hg => rfl); (case hn => rfl); (case hr => first | (go_simp; done) | (go_simp; rfl)); intro w64 hw; have hg : w60.grownBy w64 (some go54) := (by rw [hw]; exact HP63.2); have hp_ : Kd.R (Kd.int .i64) 3 w64 w.heap.size (fun _ => True) (.slice (some ⟨go54, 0, none⟩) x8_3.length co61) y192 := (by rw [hw, Ny192.out]; exact HP63.1); clear HP63; have n0_ := am (hp_); have n1_ := am (blk_grown (g := gb185) (o := .cells #[.bool ((rd_T39 l0 x9_1).f0), .int .i64 ((rd_T39 l0 x9_1).f1.f0), .int .i64 ((rd_T39 l0 x9_1).f1.f1), .slice (some ad189) ((rd_T39 l0 x9_1).f2).length c184_3] 39 (0, 0)) (by (with_reducible repeat (first | refine blk_drewN ?_ _ | refine blk_drew ?_ | refine blk_alloc ?_ _)); exact BK185.out) hg (Kd.R_ne HO_8.out BK185.out (by decide))); have n2_ := am (blk_grown (g := gb190) (o := .cells #[.int .i64 ((rd_T36 ((rd_T39 l0 x9_1).f2) x11_3).f0), .int .i64 ((rd_T36 ((rd_T39 l0 x9_1).f2) x11_3).f1)] 36 (0, 0)) (by (with_reducible repeat (first | refine blk_drewN ?_ _ | refine blk_drew ?_ | refine blk_alloc ?_ _)); exact BK190.out) hg (Kd.R_ne HO_8.out BK190.out (by decide))); have n3_ := am ((by rw [hw]; exact below_set (HB.out) GB54.out : Below w.heap.size w w64)); clear HO_8; clear BK185; clear BK190; clear HB; have HO_8 := n0_; have BK185 := n1_; have BK190 := n2_; have HB := n3_; clear n0_ n1_ n2_ n3_; clear hg hw hp_))
                    go_roundg k3
                    case measure => have := HK1.out; have := HJ9.out; have := HK3.out; omega
                    case rel => exact ⟨(y192), (wrap64 (x11_3 + 1)), (by first | rfl | (simp; done) | (simp [*]; done)), H', ⟨by have := HK1.out; have := HJ9.out; have := HK3.out; omega⟩, ⟨by (with_reducible repeat (first | apply rA | apply rN | apply rD)); exact HO_8.out⟩, ⟨by (with_reducible repeat (first | refine blk_drewN ?_ _ | refine blk_drew ?_ | refine blk_alloc ?_ _)); exact BK185.out⟩, ⟨by repeat (first | (with_reducible first | exact HB.out | apply below_alloc | apply pw_below_drewN | apply below_drew1 | refine below_set ?_ GE185.out | refine below_set ?_ GE190.out) | exact HB.out)⟩⟩
                   ·rw [if_neg c53] at H
                    have c53b0 : ((wrap64 (((rd_T36 ((rd_T39 l0 x9_1).f2) x11_3).f1) - ((rd_T36 ((rd_T39 l0 x9_1).f2) x11_3).f0))) == (wrap64 (((rd_T39 l0 x9_1).f1.f1) - ((rd_T39 l0 x9_1).f1.f0)))) = false := beq_eq_false_iff_ne.mpr c53
                    have c53b1 : ((wrap64 (((rd_T36 ((rd_T39 l0 x9_1).f2) x11_3).f1) - ((rd_T36 ((rd_T39 l0 x9_1).f2) x11_3).f0))) != (wrap64 (((rd_T39 l0 x9_1).f1.f1) - ((rd_T39 l0 x9_1).f1.f0)))) = true := bne_iff_ne.mpr c53
                    obtain rfl := Option.some.inj H
                    have hcz65_0 : wr.cell? ⟨gb185, 0, none⟩ = some (.bool ((rd_T39 l0 x9_1).f0)) := (blk_cell BK185.out 0).trans rfl
                    have hcz65_1 : wr.cell? ⟨gb185, 1, none⟩ = some (.int .i64 ((rd_T39 l0 x9_1).f1.f0)) := (blk_cell BK185.out 1).trans rfl
                    have hcz65_2 : wr.cell? ⟨gb185, 2, none⟩ = some (.int .i64 ((rd_T39 l0 x9_1).f1.f1)) := (blk_cell BK185.out 2).trans rfl
                    have hcz65_3 : wr.cell? ⟨gb185, 3, none⟩ = some (.slice A184_3 ((rd_T39 l0 x9_1).f2).length c184_3) := (blk_cell BK185.out 3).trans rfl
                    have hfz65_0 := blk_frozen BK185.out 0
                    have hfz65_1 := blk_frozen BK185.out 1
                    have hfz65_2 := blk_frozen BK185.out 2
                    have hfz65_3 := blk_frozen BK185.out 3
                    have p189 : 0 ≤ (x11_3 : Int) := of_decide_eq_true (by first | (with_reducible assumption) | assumption)
                    have q189 : x11_3 < (((rd_T39 l0 x9_1).f2).length : Int) := of_decide_eq_true (by first | (with_reducible assumption) | assumption)
                    obtain ⟨ad189, e189, hx189_0, hx189_1⟩ := at_T36 HR184_3.out x11_3 p189 q189
                    cases e189
                    replace hx189_0 := (HB.out.cell (World.block_lt_of_cell? w _ hx189_0)).trans hx189_0
                    replace hx189_1 := (HB.out.cell (World.block_lt_of_cell? w _ hx189_1)).trans hx189_1
                    replace p189 := eq_true p189
                    replace q189 := eq_true q189
                    try go_wp2_with (first | ((with_reducible refine gate_dst (N := 12) rfl ?_); (try (refine gate_guard (by rfl) ?_; dsimp only)); refine box_event ?hg (N := 12) ?hd (cs := #[.int .i64 0, .int .i64 0]) (t := 36) ?hr ?_; (case hd => rfl); (case hg => rfl); (case hr => first | (go_simp; done) | (go_simp; rfl)); intro gb190 hg w66 hbox hb; have n0_ := am (Kd.R_below (by (with_reducible repeat (first | apply rA | apply rN | apply rD)); exact HO_8.out) hb); have n1_ := am (blk_below (g := gb185) (o := .cells #[.bool ((rd_T39 l0 x9_1).f0), .int .i64 ((rd_T39 l0 x9_1).f1.f0), .int .i64 ((rd_T39 l0 x9_1).f1.f1), .slice (some ad189) ((rd_T39 l0 x9_1).f2).length c184_3] 39 (0, 0)) (by (with_reducible repeat (first | refine blk_drewN ?_ _ | refine blk_drew ?_ | refine blk_alloc ?_ _)); exact BK185.out) hb); have n2_ := am (below_step (by repeat (first | (with_reducible first | exact HB.out | apply below_alloc | apply pw_below_drewN | apply below_drew1 | refine below_set ?_ GE185.out) | exact HB.out)) hb); have n3_ := am (hbox); have n4_ := am ((by rw [hg]; exact (below_size (by repeat (first | (with_reducible first | exact HB.out | apply below_alloc | apply pw_below_drewN | apply below_drew1 | refine below_set ?_ GE185.out) | exact HB.out))) : w.heap.size ≤ gb190)); have n5_ := am ((by rw [hg]; exact (below_size (by repeat (first | (with_reducible first | exact HB.out | apply below_alloc | apply pw_below_drewN | apply below_drew1 | refine below_set ?_ GE185.out) | exact HB.out))) : w.heap.size ≤ gb190)); have n6_ := am ((by rw [hg]; exact Nat.ne_of_lt (blk_lt (g := gb185) (o := .cells #[.bool ((rd_T39 l0 x9_1).f0), .int .i64 ((rd_T39 l0 x9_1).f1.f0), .int .i64 ((rd_T39 l0 x9_1).f1.f1), .slice (some ad189) ((rd_T39 l0 x9_1).f2).length c184_3] 39 (0, 0)) (by (with_reducible repeat (first | refine blk_drewN ?_ _ | refine blk_drew ?_ | refine blk_alloc ?_ _)); exact BK185.out)) : gb185 ≠ gb190)); have n7_ := am ((by rw [hg]; exact Nat.ne_of_gt (blk_lt (g := gb185) (o := .cells #[.bool ((rd_T39 l0 x9_1).f0), .int .i64 ((rd_T39 l0 x9_1).f1.f0), .int .i64 ((rd_T39 l0 x9_1).f1.f1), .slice (some ad189) ((rd_T39 l0 x9_1).f2).length c184_3] 39 (0, 0)) (by (with_reducible repeat (first | refine blk_drewN ?_ _ | refine blk_drew ?_ | refine blk_alloc ?_ _)); exact BK185.out)) : gb190 ≠ gb185)); clear HO_8; clear BK185; clear HB; have HO_8 := n0_; have BK185 := n1_; have HB := n2_; have BK190 := n3_; have GW190 := n4_; have GE190 := n5_; have NB185_190 := n6_; have NB190_185 := n7_; clear n0_ n1_ n2_ n3_ n4_ n5_ n6_ n7_; clear hb hbox hg; have hnb67 := NB190_185.out; have hnc67 := NB185_190.out; have hcz68_0 : w66.cell? ⟨gb190, 0, none⟩ = some (.int .i64 0) := (blk_cell BK190.out 0).trans rfl; have hcz68_1 : w66.cell? ⟨gb190, 1, none⟩ = some (.int .i64 0) := (blk_cell BK190.out 1).trans rfl; have hfz68_0 := blk_frozen BK190.out 0; have hfz68_1 := blk_frozen BK190.out 1))
                    have n0_ : Aside0 (Kd.R (Kd.int .i64) 3 ((w66.setCell ⟨gb190, 0, none⟩ (.int .i64 ((rd_T36 ((rd_T39 l0 x9_1).f2) x11_3).f0))).setCell ⟨gb190, 1, none⟩ (.int .i64 ((rd_T36 ((rd_T39 l0 x9_1).f2) x11_3).f1))) w.heap.size (fun _ => True) v182 x8_3) := ⟨by (with_reducible repeat (first | apply rA | apply rN | apply rD)); exact Kd.R_mono (Kd.R_far (p := ⟨gb190, 1, none⟩) (Kd.R_far (p := ⟨gb190, 0, none⟩) (Kd.R_types HO_8.out BK190.out (by decide)) (fun _ hk => hk.2) (.int .i64 ((rd_T36 ((rd_T39 l0 x9_1).f2) x11_3).f0))) (fun _ hk => hk.2) (.int .i64 ((rd_T36 ((rd_T39 l0 x9_1).f2) x11_3).f1))) (fun _ hk => trivial)⟩
                    have n1_ : Aside0 (((w66.setCell ⟨gb190, 0, none⟩ (.int .i64 ((rd_T36 ((rd_T39 l0 x9_1).f2) x11_3).f0))).setCell ⟨gb190, 1, none⟩ (.int .i64 ((rd_T36 ((rd_T39 l0 x9_1).f2) x11_3).f1))).heap[gb185]? = some (.cells #[.bool ((rd_T39 l0 x9_1).f0), .int .i64 ((rd_T39 l0 x9_1).f1.f0), .int .i64 ((rd_T39 l0 x9_1).f1.f1), .slice (some ad189) ((rd_T39 l0 x9_1).f2).length c184_3] 39 (0, 0))) := ⟨by (with_reducible repeat (first | refine blk_drewN ?_ _ | refine blk_drew ?_ | refine blk_alloc ?_ _)); refine blk_far ?_ NB185_190.out _; (with_reducible repeat (first | refine blk_drewN ?_ _ | refine blk_drew ?_ | refine blk_alloc ?_ _)); refine blk_far ?_ NB185_190.out _; (with_reducible repeat (first | refine blk_drewN ?_ _ | refine blk_drew ?_ | refine blk_alloc ?_ _)); exact BK185.out⟩
                    have n2_ : Aside0 (((w66.setCell ⟨gb190, 0, none⟩ (.int .i64 ((rd_T36 ((rd_T39 l0 x9_1).f2) x11_3).f0))).setCell ⟨gb190, 1, none⟩ (.int .i64 ((rd_T36 ((rd_T39 l0 x9_1).f2) x11_3).f1))).heap[gb190]? = some (.cells #[.int .i64 ((rd_T36 ((rd_T39 l0 x9_1).f2) x11_3).f0), .int .i64 ((rd_T36 ((rd_T39 l0 x9_1).f2) x11_3).f1)] 36 (0, 0))) := ⟨by (with_reducible repeat (first | refine blk_drewN ?_ _ | refine blk_drew ?_ | refine blk_alloc ?_ _)); refine blk_put (cs := #[.int .i64 ((rd_T36 ((rd_T39 l0 x9_1).f2) x11_3).f0), .int .i64 0]) ?_ 1 _ rfl; (with_reducible repeat (first | refine blk_drewN ?_ _ | refine blk_drew ?_ | refine blk_alloc ?_ _)); refine blk_put (cs := #[.int .i64 0, .int .i64 0]) ?_ 0 _ rfl; (with_reducible repeat (first | refine blk_drewN ?_ _ | refine blk_drew ?_ | refine blk_alloc ?_ _)); exact BK190.out⟩
                    have n3_ : Aside0 (Below w.heap.size w ((w66.setCell ⟨gb190, 0, none⟩ (.int .i64 ((rd_T36 ((rd_T39 l0 x9_1).f2) x11_3).f0))).setCell ⟨gb190, 1, none⟩ (.int .i64 ((rd_T36 ((rd_T39 l0 x9_1).f2) x11_3).f1)))) := ⟨by repeat (first | (with_reducible first | exact HB.out | apply below_alloc | apply pw_below_drewN | apply below_drew1 | refine below_set ?_ GE185.out | refine below_set ?_ GE190.out) | exact HB.out)⟩
                    (try clear HO_8)
                    (try clear BK185)
                    (try clear BK190)
                    (try clear HB)
                    generalize ((w66.setCell ⟨gb190, 0, none⟩ (.int .i64 ((rd_T36 ((rd_T39 l0 x9_1).f2) x11_3).f0))).setCell ⟨gb190, 1, none⟩ (.int .i64 ((rd_T36 ((rd_T39 l0 x9_1).f2) x11_3).f1))) = w69 at n0_ n1_ n2_ n3_ ⊢
                    have HO_8 := n0_
                    have BK185 := n1_
                    have BK190 := n2_
                    have HB := n3_
                    clear n0_ n1_ n2_ n3_
                    have n0_ := am (Kd.R_drew HO_8.out)
                    have n1_ := am (blk_drew BK185.out)
                    have n2_ := am (blk_drew BK190.out)
                    have n3_ := am (below_drew1 HB.out)
                    clear HO_8
                    clear BK185
                    clear BK190
                    clear HB
                    have HO_8 := n0_
                    have BK185 := n1_
                    have BK190 := n2_
                    have HB := n3_
                    clear n0_ n1_ n2_ n3_
                    obtain ⟨Ao71, co71, eo71⟩ := Kd.R_slice HO_8.out
                    (first | subst eo71 | (injection eo71 with f1_ f2_ f3_; have f4_ := f1_.symm; have f5_ := f3_.symm; clear f1_ f2_ f3_; subst f4_; subst f5_))
                    have p191 : 0 ≤ (x11_3 : Int) := of_decide_eq_true (by first | (with_reducible assumption) | assumption)
                    have q191 : x11_3 < (x8_3.length : Int) := of_decide_eq_true (by first | (with_reducible assumption) | assumption)
                    obtain ⟨ad191, e191, hx191_0⟩ := Kd.at_int (Kd.R_reads' HO_8.out).2.2 x11_3 p191 q191
                    cases e191
                    replace p191 := eq_true p191
                    replace q191 := eq_true q191
                    refine start_ (n := 33) (S := fun w' => w'.cell? ⟨gb190, 0, none⟩ = some (.int .i64 ((rd_T36 ((rd_T39 l0 x9_1).f2) x11_3).f0)) ∧ w'.cell? ⟨gb190, 1, none⟩ = some (.int .i64 ((rd_T36 ((rd_T39 l0 x9_1).f2) x11_3).f1)) ∧ w'.cell? ⟨gb185, 0, none⟩ = some (.bool ((rd_T39 l0 x9_1).f0)) ∧ w'.cell? ⟨gb185, 1, none⟩ = some (.int .i64 ((rd_T39 l0 x9_1).f1.f0)) ∧ w'.cell? ⟨gb185, 2, none⟩ = some (.int .i64 ((rd_T39 l0 x9_1).f1.f1)) ∧ w'.cell? ⟨gb185, 3, none⟩ = some (.slice (some ad189) ((rd_T39 l0 x9_1).f2).length c184_3) ∧ w'.cell? (ad191.add (x11_3).toNat) = some (.int .i64 (rd x8_3 x11_3))) (ds := []) #[false, false, false, false, false, false, false, false, false, false, false, false, false, false, false, false, false, false, false, false, false, false, false, false, false, false, false, false, false, false, false, false, false] (by kernel_rfl) rfl rfl ⟨(blk_cell BK190.out 0).trans rfl, (blk_cell BK190.out 1).trans rfl, (blk_cell BK185.out 0).trans rfl, (blk_cell BK185.out 1).trans rfl, (blk_cell BK185.out 2).trans rfl, (blk_cell BK185.out 3).trans rfl, hx191_0⟩ (fun hHeld => ?_); refine with_tabW sennitlaw05_covers.tab14 sennitlaw05_covers.bits14 (fun HT_ HW_ => ?_)
                    generalize w69.drew = w70 at HO_8 BK185 BK190 HB hx191_0 hHeld ⊢
                    refine pN HT_.out 0 80 ?_
                    refine pN HT_.out 2 82 ?_
                    refine pN HT_.out 3 83 ?_
                    refine pN HT_.out 4 84 ?_
                    refine take_ (i := 1) (N := some 81) (v := ?_) (a' := ?_) #[true, true, true, true, true, false, false, false, false, false, false, false, false, false, false, false, false, false, false, false, false, false, false, false, false, false, false, false, false, false, false, false, false] rfl rfl (take_ofW HT_.out HW_.out (by kernel_rfl)) (fun _ _ _ h => h) (Or.inl ⟨by rfl, ?_⟩) hHeld ?_ ?_
                    rotate_left
                    ·rintro w' ⟨s0, s1, s2, s3, s4, s5, s6⟩
                     go_simp
                     with_reducible rfl
                    rotate_left
                    ·simp only [Act.put, List.setIfInBounds_toArray, List.set_cons_zero, List.set_cons_succ, i64_w, i32_w]
                     rfl
                    refine take_ (i := 5) (N := some 85) (v := ?_) (a' := ?_) #[true, true, true, true, true, true, false, false, false, false, false, false, false, false, false, false, false, false, false, false, false, false, false, false, false, false, false, false, false, false, false, false, false] rfl rfl (take_ofW HT_.out HW_.out (by kernel_rfl)) (fun _ _ _ h => h) (Or.inl ⟨by rfl, ?_⟩) hHeld ?_ ?_
                    rotate_left
                    ·rintro w' ⟨s0, s1, s2, s3, s4, s5, s6⟩
                     go_simp
                     with_reducible rfl
                    rotate_left
                    ·simp only [Act.put, List.setIfInBounds_toArray, List.set_cons_zero, List.set_cons_succ, i64_w, i32_w]
                     rfl
                    refine pN HT_.out 6 86 ?_
                    refine pN HT_.out 7 87 ?_
                    refine pN HT_.out 8 88 ?_
                    refine pN HT_.out 10 90 ?_
                    refine take_ (i := 9) (N := some 89) (v := ?_) (a' := ?_) #[true, true, true, true, true, true, true, true, true, true, true, false, false, false, false, false, false, false, false, false, false, false, false, false, false, false, false, false, false, false, false, false, false] rfl rfl (take_ofW HT_.out HW_.out (by kernel_rfl)) (fun _ _ _ h => h) (Or.inl ⟨by rfl, ?_⟩) hHeld ?_ ?_
                    rotate_left
                    ·rintro w' ⟨s0, s1, s2, s3, s4, s5, s6⟩
                     go_simp
                     with_reducible rfl
                    rotate_left
                    ·simp only [Act.put, List.setIfInBounds_toArray, List.set_cons_zero, List.set_cons_succ, i64_w, i32_w]
                     rfl
                    refine take_ (i := 11) (N := some 91) (v := ?_) (a' := ?_) #[true, true, true, true, true, true, true, true, true, true, true, true, false, false, false, false, false, false, false, false, false, false, false, false, false, false, false, false, false, false, false, false, false] rfl rfl (take_ofW HT_.out HW_.out (by kernel_rfl)) (fun _ _ _ h => h) (Or.inl ⟨by rfl, ?_⟩) hHeld ?_ ?_
                    rotate_left
                    ·rintro w' ⟨s0, s1, s2, s3, s4, s5, s6⟩
                     go_simp
                     with_reducible rfl
                    rotate_left
                    ·simp only [Act.put, List.setIfInBounds_toArray, List.set_cons_zero, List.set_cons_succ, i64_w, i32_w]
                     rfl
                    refine pN HT_.out 12 92 ?_
                    refine pN HT_.out 13 93 ?_
                    refine pN HT_.out 14 94 ?_
                    refine pN HT_.out 15 95 ?_
                    refine take_ (i := 16) (N := some 96) (v := ?_) (a' := ?_) #[true, true, true, true, true, true, true, true, true, true, true, true, true, true, true, true, true, false, false, false, false, false, false, false, false, false, false, false, false, false, false, false, false] rfl rfl (take_ofW HT_.out HW_.out (by kernel_rfl)) (fun _ _ _ h => h) (Or.inl ⟨by rfl, ?_⟩) hHeld ?_ ?_
                    rotate_left
                    ·rintro w' ⟨s0, s1, s2, s3, s4, s5, s6⟩
                     go_simp
                     with_reducible rfl
                    rotate_left
                    ·simp only [Act.put, List.setIfInBounds_toArray, List.set_cons_zero, List.set_cons_succ, i64_w, i32_w]
                     rfl
                    refine pN HT_.out 17 97 ?_
                    refine pN HT_.out 18 98 ?_
                    refine pN HT_.out 20 100 ?_
                    refine pN HT_.out 23 103 ?_
                    refine pN HT_.out 24 104 ?_
                    refine pN HT_.out 26 106 ?_
                    refine pN HT_.out 27 107 ?_
                    refine take_ (i := 19) (N := some 99) (v := ?_) (a' := ?_) #[true, true, true, true, true, true, true, true, true, true, true, true, true, true, true, true, true, true, true, true, true, false, false, true, true, false, true, true, false, false, false, false, false] rfl rfl (take_ofW HT_.out HW_.out (by kernel_rfl)) (fun _ _ _ h => h) (Or.inl ⟨by rfl, ?_⟩) hHeld ?_ ?_
                    rotate_left
                    ·rintro w' ⟨s0, s1, s2, s3, s4, s5, s6⟩
                     go_simp
                     with_reducible rfl
                    rotate_left
                    ·simp only [Act.put, List.setIfInBounds_toArray, List.set_cons_zero, List.set_cons_succ, i64_w, i32_w]
                     rfl
                    refine take_ (i := 21) (N := some 101) (v := ?_) (a' := ?_) #[true, true, true, true, true, true, true, true, true, true, true, true, true, true, true, true, true, true, true, true, true, true, false, true, true, false, true, true, false, false, false, false, false] rfl rfl (take_ofW HT_.out HW_.out (by kernel_rfl)) (fun _ _ _ h => h) (Or.inl ⟨by rfl, ?_⟩) hHeld ?_ ?_
                    rotate_left
                    ·rintro w' ⟨s0, s1, s2, s3, s4, s5, s6⟩
                     go_simp
                     with_reducible rfl
                    rotate_left
                    ·simp only [Act.put, List.setIfInBounds_toArray, List.set_cons_zero, List.set_cons_succ, i64_w, i32_w]
                     rfl
                    refine pN HT_.out 22 102 ?_
                    refine take_ (i := 25) (N := some 105) (v := ?_) (a' := ?_) #[true, true, true, true, true, true, true, true, true, true, true, true, true, true, true, true, true, true, true, true, true, true, true, true, true, true, true, true, false, false, false, false, false] rfl rfl (take_ofW HT_.out HW_.out (by kernel_rfl)) (fun _ _ _ h => h) (Or.inl ⟨by rfl, ?_⟩) hHeld ?_ ?_
                    rotate_left
                    ·rintro w' ⟨s0, s1, s2, s3, s4, s5, s6⟩
                     go_simp
                     with_reducible rfl
                    rotate_left
                    ·simp only [Act.put, List.setIfInBounds_toArray, List.set_cons_zero, List.set_cons_succ, i64_w, i32_w]
                     rfl
                    refine take_ (i := 28) (N := some 108) (v := ?_) (a' := ?_) #[true, true, true, true, true, true, true, true, true, true, true, true, true, true, true, true, true, true, true, true, true, true, true, true, true, true, true, true, true, false, false, false, false] rfl rfl (take_ofW HT_.out HW_.out (by kernel_rfl)) (fun _ _ _ h => h) (Or.inl ⟨by rfl, ?_⟩) hHeld ?_ ?_
                    rotate_left
                    ·rintro w' ⟨s0, s1, s2, s3, s4, s5, s6⟩
                     go_simp
                     with_reducible rfl
                    rotate_left
                    ·simp only [Act.put, List.setIfInBounds_toArray, List.set_cons_zero, List.set_cons_succ, i64_w, i32_w]
                     rfl
                    refine pN HT_.out 29 109 ?_
                    refine pN HT_.out 30 110 ?_
                    refine pN HT_.out 31 111 ?_
                    refine pN HT_.out 32 112 ?_
                    refine done_ (done_of HT_.out (by kernel_rfl)) ?_
                    try go_wp2
                    go_ret
                    exact ⟨by first | rfl | (simp [errW_none, errW_some] <;> rfl) | (simp [*, errW_none, errW_some] <;> rfl), by repeat (first | (with_reducible first | exact HB.out | apply below_alloc | apply pw_below_drewN | apply below_drew1 | refine below_set ?_ GE185.out | refine below_set ?_ GE190.out) | exact HB.out)⟩
                  ·rw [if_neg c52] at H
                   have c52b0 : ((rd_T39 l0 x9_1).f0) = false := by simpa using c52
                   clear c52
                   obtain ⟨y193, hy193⟩ : ∃ y_ : List Int, y_ = (x8_3.set (x11_3 : Int).toNat ((rd_T36 ((rd_T39 l0 x9_1).f2) x11_3).f1)) := ⟨_, rfl⟩
                   replace H : (sennitlaw05_covers.l1 k3 l0 a1 l2 ((rd_T39 l0 x9_1).f1.f1) y193 x9_1 (wrap64 (x11_3 + 1)) ((rd_T39 l0 x9_1).f0) ((rd_T39 l0 x9_1).f1.f0) ((rd_T39 l0 x9_1).f1.f1) ((rd_T39 l0 x9_1).f2)) = some r := by first | (rw [hy193]; with_reducible exact H) | (have H2_ := (Option.bind_some _ _).symm.trans H; rw [hy193]; with_reducible exact H2_) | (have H2_ := (Option.bind_some _ _).symm.trans H; with_reducible exact H2_) | with_reducible exact H | (rw [hy193]; exact H) | exact H
                   have Ny193 := am hy193
                   clear hy193
                   have H' := am H
                   clear H
                   have hcz73_0 : wr.cell? ⟨gb185, 0, none⟩ = some (.bool ((rd_T39 l0 x9_1).f0)) := (blk_cell BK185.out 0).trans rfl
                   have hcz73_1 : wr.cell? ⟨gb185, 1, none⟩ = some (.int .i64 ((rd_T39 l0 x9_1).f1.f0)) := (blk_cell BK185.out 1).trans rfl
                   have hcz73_2 : wr.cell? ⟨gb185, 2, none⟩ = some (.int .i64 ((rd_T39 l0 x9_1).f1.f1)) := (blk_cell BK185.out 2).trans rfl
                   have hcz73_3 : wr.cell? ⟨gb185, 3, none⟩ = some (.slice A184_3 ((rd_T39 l0 x9_1).f2).length c184_3) := (blk_cell BK185.out 3).trans rfl
                   have hfz73_0 := blk_frozen BK185.out 0
                   have hfz73_1 := blk_frozen BK185.out 1
                   have hfz73_2 := blk_frozen BK185.out 2
                   have hfz73_3 := blk_frozen BK185.out 3
                   have p189 : 0 ≤ (x11_3 : Int) := of_decide_eq_true (by first | (with_reducible assumption) | assumption)
                   have q189 : x11_3 < (((rd_T39 l0 x9_1).f2).length : Int) := of_decide_eq_true (by first | (with_reducible assumption) | assumption)
                   obtain ⟨ad189, e189, hx189_0, hx189_1⟩ := at_T36 HR184_3.out x11_3 p189 q189
                   cases e189
                   replace hx189_0 := (HB.out.cell (World.block_lt_of_cell? w _ hx189_0)).trans hx189_0
                   replace hx189_1 := (HB.out.cell (World.block_lt_of_cell? w _ hx189_1)).trans hx189_1
                   replace p189 := eq_true p189
                   replace q189 := eq_true q189
                   try go_wp2_with (first | ((with_reducible refine gate_dst (N := 12) rfl ?_); (try (refine gate_guard (by rfl) ?_; dsimp only)); refine box_event ?hg (N := 12) ?hd (cs := #[.int .i64 0, .int .i64 0]) (t := 36) ?hr ?_; (case hd => rfl); (case hg => rfl); (case hr => first | (go_simp; done) | (go_simp; rfl)); intro gb190 hg w74 hbox hb; have n0_ := am (Kd.R_below (by (with_reducible repeat (first | apply rA | apply rN | apply rD)); exact HO_8.out) hb); have n1_ := am (blk_below (g := gb185) (o := .cells #[.bool ((rd_T39 l0 x9_1).f0), .int .i64 ((rd_T39 l0 x9_1).f1.f0), .int .i64 ((rd_T39 l0 x9_1).f1.f1), .slice (some ad189) ((rd_T39 l0 x9_1).f2).length c184_3] 39 (0, 0)) (by (with_reducible repeat (first | refine blk_drewN ?_ _ | refine blk_drew ?_ | refine blk_alloc ?_ _)); exact BK185.out) hb); have n2_ := am (below_step (by repeat (first | (with_reducible first | exact HB.out | apply below_alloc | apply pw_below_drewN | apply below_drew1 | refine below_set ?_ GE185.out) | exact HB.out)) hb); have n3_ := am (hbox); have n4_ := am ((by rw [hg]; exact (below_size (by repeat (first | (with_reducible first | exact HB.out | apply below_alloc | apply pw_below_drewN | apply below_drew1 | refine below_set ?_ GE185.out) | exact HB.out))) : w.heap.size ≤ gb190)); have n5_ := am ((by rw [hg]; exact (below_size (by repeat (first | (with_reducible first | exact HB.out | apply below_alloc | apply pw_below_drewN | apply below_drew1 | refine below_set ?_ GE185.out) | exact HB.out))) : w.heap.size ≤ gb190)); have n6_ := am ((by rw [hg]; exact Nat.ne_of_lt (blk_lt (g := gb185) (o := .cells #[.bool ((rd_T39 l0 x9_1).f0), .int .i64 ((rd_T39 l0 x9_1).f1.f0), .int .i64 ((rd_T39 l0 x9_1).f1.f1), .slice (some ad189) ((rd_T39 l0 x9_1).f2).length c184_3] 39 (0, 0)) (by (with_reducible repeat (first | refine blk_drewN ?_ _ | refine blk_drew ?_ | refine blk_alloc ?_ _)); exact BK185.out)) : gb185 ≠ gb190)); have n7_ := am ((by rw [hg]; exact Nat.ne_of_gt (blk_lt (g := gb185) (o := .cells #[.bool ((rd_T39 l0 x9_1).f0), .int .i64 ((rd_T39 l0 x9_1).f1.f0), .int .i64 ((rd_T39 l0 x9_1).f1.f1), .slice (some ad189) ((rd_T39 l0 x9_1).f2).length c184_3] 39 (0, 0)) (by (with_reducible repeat (first | refine blk_drewN ?_ _ | refine blk_drew ?_ | refine blk_alloc ?_ _)); exact BK185.out)) : gb190 ≠ gb185)); clear HO_8; clear BK185; clear HB; have HO_8 := n0_; have BK185 := n1_; have HB := n2_; have BK190 := n3_; have GW190 := n4_; have GE190 := n5_; have NB185_190 := n6_; have NB190_185 := n7_; clear n0_ n1_ n2_ n3_ n4_ n5_ n6_ n7_; clear hb hbox hg; have hnb75 := NB190_185.out; have hnc75 := NB185_190.out; have hcz76_0 : w74.cell? ⟨gb190, 0, none⟩ = some (.int .i64 0) := (blk_cell BK190.out 0).trans rfl; have hcz76_1 : w74.cell? ⟨gb190, 1, none⟩ = some (.int .i64 0) := (blk_cell BK190.out 1).trans rfl; have hfz76_0 := blk_frozen BK190.out 0; have hfz76_1 := blk_frozen BK190.out 1))
                   have n0_ : Aside0 (Kd.R (Kd.int .i64) 3 ((w74.setCell ⟨gb190, 0, none⟩ (.int .i64 ((rd_T36 ((rd_T39 l0 x9_1).f2) x11_3).f0))).setCell ⟨gb190, 1, none⟩ (.int .i64 ((rd_T36 ((rd_T39 l0 x9_1).f2) x11_3).f1))) w.heap.size (fun _ => True) v182 x8_3) := ⟨by (with_reducible repeat (first | apply rA | apply rN | apply rD)); exact Kd.R_mono (Kd.R_far (p := ⟨gb190, 1, none⟩) (Kd.R_far (p := ⟨gb190, 0, none⟩) (Kd.R_types HO_8.out BK190.out (by decide)) (fun _ hk => hk.2) (.int .i64 ((rd_T36 ((rd_T39 l0 x9_1).f2) x11_3).f0))) (fun _ hk => hk.2) (.int .i64 ((rd_T36 ((rd_T39 l0 x9_1).f2) x11_3).f1))) (fun _ hk => trivial)⟩
                   have n1_ : Aside0 (((w74.setCell ⟨gb190, 0, none⟩ (.int .i64 ((rd_T36 ((rd_T39 l0 x9_1).f2) x11_3).f0))).setCell ⟨gb190, 1, none⟩ (.int .i64 ((rd_T36 ((rd_T39 l0 x9_1).f2) x11_3).f1))).heap[gb185]? = some (.cells #[.bool ((rd_T39 l0 x9_1).f0), .int .i64 ((rd_T39 l0 x9_1).f1.f0), .int .i64 ((rd_T39 l0 x9_1).f1.f1), .slice (some ad189) ((rd_T39 l0 x9_1).f2).length c184_3] 39 (0, 0))) := ⟨by (with_reducible repeat (first | refine blk_drewN ?_ _ | refine blk_drew ?_ | refine blk_alloc ?_ _)); refine blk_far ?_ NB185_190.out _; (with_reducible repeat (first | refine blk_drewN ?_ _ | refine blk_drew ?_ | refine blk_alloc ?_ _)); refine blk_far ?_ NB185_190.out _; (with_reducible repeat (first | refine blk_drewN ?_ _ | refine blk_drew ?_ | refine blk_alloc ?_ _)); exact BK185.out⟩
                   have n2_ : Aside0 (((w74.setCell ⟨gb190, 0, none⟩ (.int .i64 ((rd_T36 ((rd_T39 l0 x9_1).f2) x11_3).f0))).setCell ⟨gb190, 1, none⟩ (.int .i64 ((rd_T36 ((rd_T39 l0 x9_1).f2) x11_3).f1))).heap[gb190]? = some (.cells #[.int .i64 ((rd_T36 ((rd_T39 l0 x9_1).f2) x11_3).f0), .int .i64 ((rd_T36 ((rd_T39 l0 x9_1).f2) x11_3).f1)] 36 (0, 0))) := ⟨by (with_reducible repeat (first | refine blk_drewN ?_ _ | refine blk_drew ?_ | refine blk_alloc ?_ _)); refine blk_put (cs := #[.int .i64 ((rd_T36 ((rd_T39 l0 x9_1).f2) x11_3).f0), .int .i64 0]) ?_ 1 _ rfl; (with_reducible repeat (first | refine blk_drewN ?_ _ | refine blk_drew ?_ | refine blk_alloc ?_ _)); refine blk_put (cs := #[.int .i64 0, .int .i64 0]) ?_ 0 _ rfl; (with_reducible repeat (first | refine blk_drewN ?_ _ | refine blk_drew ?_ | refine blk_alloc ?_ _)); exact BK190.out⟩
                   have n3_ : Aside0 (Below w.heap.size w ((w74.setCell ⟨gb190, 0, none⟩ (.int .i64 ((rd_T36 ((rd_T39 l0 x9_1).f2) x11_3).f0))).setCell ⟨gb190, 1, none⟩ (.int .i64 ((rd_T36 ((rd_T39 l0 x9_1).f2) x11_3).f1)))) := ⟨by repeat (first | (with_reducible first | exact HB.out | apply below_alloc | apply pw_below_drewN | apply below_drew1 | refine below_set ?_ GE185.out | refine below_set ?_ GE190.out) | exact HB.out)⟩
                   (try clear HO_8)
                   (try clear BK185)
                   (try clear BK190)
                   (try clear HB)
                   generalize ((w74.setCell ⟨gb190, 0, none⟩ (.int .i64 ((rd_T36 ((rd_T39 l0 x9_1).f2) x11_3).f0))).setCell ⟨gb190, 1, none⟩ (.int .i64 ((rd_T36 ((rd_T39 l0 x9_1).f2) x11_3).f1))) = w77 at n0_ n1_ n2_ n3_ ⊢
                   have HO_8 := n0_
                   have BK185 := n1_
                   have BK190 := n2_
                   have HB := n3_
                   clear n0_ n1_ n2_ n3_
                   have n0_ := am (Kd.R_drew HO_8.out)
                   have n1_ := am (blk_drew BK185.out)
                   have n2_ := am (blk_drew BK190.out)
                   have n3_ := am (below_drew1 HB.out)
                   clear HO_8
                   clear BK185
                   clear BK190
                   clear HB
                   have HO_8 := n0_
                   have BK185 := n1_
                   have BK190 := n2_
                   have HB := n3_
                   clear n0_ n1_ n2_ n3_
                   obtain ⟨Ao79, co79, eo79⟩ := Kd.R_slice HO_8.out
                   (first | subst eo79 | (injection eo79 with f1_ f2_ f3_; have f4_ := f1_.symm; have f5_ := f3_.symm; clear f1_ f2_ f3_; subst f4_; subst f5_))
                   have p191 : 0 ≤ (x11_3 : Int) := of_decide_eq_true (by first | (with_reducible assumption) | assumption)
                   have q191 : x11_3 < (x8_3.length : Int) := of_decide_eq_true (by first | (with_reducible assumption) | assumption)
                   obtain ⟨ad191, e191, hx191_0⟩ := Kd.at_int (Kd.R_reads' HO_8.out).2.2 x11_3 p191 q191
                   cases e191
                   replace p191 := eq_true p191
                   replace q191 := eq_true q191
                   refine start_ (n := 33) (S := fun w' => w'.cell? ⟨gb190, 0, none⟩ = some (.int .i64 ((rd_T36 ((rd_T39 l0 x9_1).f2) x11_3).f0)) ∧ w'.cell? ⟨gb190, 1, none⟩ = some (.int .i64 ((rd_T36 ((rd_T39 l0 x9_1).f2) x11_3).f1)) ∧ w'.cell? ⟨gb185, 0, none⟩ = some (.bool ((rd_T39 l0 x9_1).f0)) ∧ w'.cell? ⟨gb185, 1, none⟩ = some (.int .i64 ((rd_T39 l0 x9_1).f1.f0)) ∧ w'.cell? ⟨gb185, 2, none⟩ = some (.int .i64 ((rd_T39 l0 x9_1).f1.f1)) ∧ w'.cell? ⟨gb185, 3, none⟩ = some (.slice (some ad189) ((rd_T39 l0 x9_1).f2).length c184_3) ∧ w'.cell? (ad191.add (x11_3).toNat) = some (.int .i64 (rd x8_3 x11_3))) (ds := []) #[false, false, false, false, false, false, false, false, false, false, false, false, false, false, false, false, false, false, false, false, false, false, false, false, false, false, false, false, false, false, false, false, false] (by kernel_rfl) rfl rfl ⟨(blk_cell BK190.out 0).trans rfl, (blk_cell BK190.out 1).trans rfl, (blk_cell BK185.out 0).trans rfl, (blk_cell BK185.out 1).trans rfl, (blk_cell BK185.out 2).trans rfl, (blk_cell BK185.out 3).trans rfl, hx191_0⟩ (fun hHeld => ?_); refine with_tabW sennitlaw05_covers.tab14 sennitlaw05_covers.bits14 (fun HT_ HW_ => ?_)
                   generalize w77.drew = w78 at HO_8 BK185 BK190 HB hx191_0 hHeld ⊢
                   refine pN HT_.out 0 80 ?_
                   refine pN HT_.out 2 82 ?_
                   refine pN HT_.out 3 83 ?_
                   refine pN HT_.out 4 84 ?_
                   refine take_ (i := 1) (N := some 81) (v := ?_) (a' := ?_) #[true, true, true, true, true, false, false, false, false, false, false, false, false, false, false, false, false, false, false, false, false, false, false, false, false, false, false, false, false, false, false, false, false] rfl rfl (take_ofW HT_.out HW_.out (by kernel_rfl)) (fun _ _ _ h => h) (Or.inl ⟨by rfl, ?_⟩) hHeld ?_ ?_
                   rotate_left
                   ·rintro w' ⟨s0, s1, s2, s3, s4, s5, s6⟩
                    go_simp
                    with_reducible rfl
                   rotate_left
                   ·simp only [Act.put, List.setIfInBounds_toArray, List.set_cons_zero, List.set_cons_succ, i64_w, i32_w]
                    rfl
                   refine take_ (i := 5) (N := some 85) (v := ?_) (a' := ?_) #[true, true, true, true, true, true, false, false, false, false, false, false, false, false, false, false, false, false, false, false, false, false, false, false, false, false, false, false, false, false, false, false, false] rfl rfl (take_ofW HT_.out HW_.out (by kernel_rfl)) (fun _ _ _ h => h) (Or.inl ⟨by rfl, ?_⟩) hHeld ?_ ?_
                   rotate_left
                   ·rintro w' ⟨s0, s1, s2, s3, s4, s5, s6⟩
                    go_simp
                    with_reducible rfl
                   rotate_left
                   ·simp only [Act.put, List.setIfInBounds_toArray, List.set_cons_zero, List.set_cons_succ, i64_w, i32_w]
                    rfl
                   refine pN HT_.out 6 86 ?_
                   refine pN HT_.out 7 87 ?_
                   refine pN HT_.out 8 88 ?_
                   refine pN HT_.out 10 90 ?_
                   refine take_ (i := 9) (N := some 89) (v := ?_) (a' := ?_) #[true, true, true, true, true, true, true, true, true, true, true, false, false, false, false, false, false, false, false, false, false, false, false, false, false, false, false, false, false, false, false, false, false] rfl rfl (take_ofW HT_.out HW_.out (by kernel_rfl)) (fun _ _ _ h => h) (Or.inl ⟨by rfl, ?_⟩) hHeld ?_ ?_
                   rotate_left
                   ·rintro w' ⟨s0, s1, s2, s3, s4, s5, s6⟩
                    go_simp
                    with_reducible rfl
                   rotate_left
                   ·simp only [Act.put, List.setIfInBounds_toArray, List.set_cons_zero, List.set_cons_succ, i64_w, i32_w]
                    rfl
                   refine take_ (i := 11) (N := some 91) (v := ?_) (a' := ?_) #[true, true, true, true, true, true, true, true, true, true, true, true, false, false, false, false, false, false, false, false, false, false, false, false, false, false, false, false, false, false, false, false, false] rfl rfl (take_ofW HT_.out HW_.out (by kernel_rfl)) (fun _ _ _ h => h) (Or.inl ⟨by rfl, ?_⟩) hHeld ?_ ?_
                   rotate_left
                   ·rintro w' ⟨s0, s1, s2, s3, s4, s5, s6⟩
                    go_simp
                    with_reducible rfl
                   rotate_left
                   ·simp only [Act.put, List.setIfInBounds_toArray, List.set_cons_zero, List.set_cons_succ, i64_w, i32_w]
                    rfl
                   refine pN HT_.out 12 92 ?_
                   refine pN HT_.out 13 93 ?_
                   refine pN HT_.out 14 94 ?_
                   refine pN HT_.out 15 95 ?_
                   refine take_ (i := 16) (N := some 96) (v := ?_) (a' := ?_) #[true, true, true, true, true, true, true, true, true, true, true, true, true, true, true, true, true, false, false, false, false, false, false, false, false, false, false, false, false, false, false, false, false] rfl rfl (take_ofW HT_.out HW_.out (by kernel_rfl)) (fun _ _ _ h => h) (Or.inl ⟨by rfl, ?_⟩) hHeld ?_ ?_
                   rotate_left
                   ·rintro w' ⟨s0, s1, s2, s3, s4, s5, s6⟩
                    go_simp
                    with_reducible rfl
                   rotate_left
                   ·simp only [Act.put, List.setIfInBounds_toArray, List.set_cons_zero, List.set_cons_succ, i64_w, i32_w]
                    rfl
                   refine pN HT_.out 17 97 ?_
                   refine pU HT_.out 18 98 ?_
                   refine pU HT_.out 19 99 ?_
                   refine pU HT_.out 20 100 ?_
                   refine pU HT_.out 21 101 ?_
                   refine pU HT_.out 22 102 ?_
                   refine pU HT_.out 23 103 ?_
                   refine pU HT_.out 24 104 ?_
                   refine pU HT_.out 25 105 ?_
                   refine pU HT_.out 26 106 ?_
                   refine pU HT_.out 27 107 ?_
                   refine pU HT_.out 28 108 ?_
                   refine pU HT_.out 29 109 ?_
                   refine pU HT_.out 30 110 ?_
                   refine pN HT_.out 31 111 ?_
                   refine pN HT_.out 32 112 ?_
                   refine done_ (done_of HT_.out (by kernel_rfl)) ?_
                   have hcz80_0 : w78.cell? ⟨gb190, 0, none⟩ = some (.int .i64 ((rd_T36 ((rd_T39 l0 x9_1).f2) x11_3).f0)) := (blk_cell BK190.out 0).trans rfl
                   have hcz80_1 : w78.cell? ⟨gb190, 1, none⟩ = some (.int .i64 ((rd_T36 ((rd_T39 l0 x9_1).f2) x11_3).f1)) := (blk_cell BK190.out 1).trans rfl
                   have hfz80_0 := blk_frozen BK190.out 0
                   have hfz80_1 := blk_frozen BK190.out 1
                   have p72 : 0 ≤ (x11_3 : Int) := of_decide_eq_true (by first | (with_reducible assumption) | assumption)
                   have q72 : (x11_3 : Int) < ((x8_3.length : Int) : Int) := of_decide_eq_true (by first | (with_reducible assumption) | assumption)
                   obtain ⟨go72, co72, eo72, gb72, gl72, cl72, HG72⟩ := Kd.R_form HO_8.out (by omega)
                   (first | cases eo72 | (injection eo72 with ea_ en_ ec_; (first | subst ea_ | (injection ea_ with ea_; subst ea_)); subst ec_; clear en_))
                   have GB72 := am gb72
                   have GG72 := am HG72
                   clear gb72 gl72 HG72
                   (first | simp only [add_plain] at hx191_0 | skip)
                   obtain ⟨hx72_0, hf72_0⟩ := Kd.R_celln 0 HO_8.out (x11_3 : Int) p72 q72
                   replace p72 := eq_true p72
                   replace q72 := eq_true q72
                   obtain ⟨hy81_, hz81_⟩ := Kd.R_celln 0 HO_8.out (x11_3 : Int) (of_decide_eq_true (by first | (with_reducible assumption) | assumption)) (of_decide_eq_true (by first | (with_reducible assumption) | assumption))
                   have HP81 := Kd.R_putg HO_8.out (x11_3 : Int) ((rd_T36 ((rd_T39 l0 x9_1).f2) x11_3).f1)
                   try go_wp2_with (first | ((with_reducible refine gate_store (t := 3) (p := 117) rfl ?_); refine store_event (t := 3) (p := 117) (v := ?vo_w82) (w1 := (w78.setCell ⟨go72, (x11_3 : Int).toNat, none⟩ (.int .i64 ((rd_T36 ((rd_T39 l0 x9_1).f2) x11_3).f1)))) ?hg ?ho ?hn ?hr ?_; (case ho => rfl); (case hg => rfl); (case hn => rfl); (case hr => first | (go_simp; done) | (go_simp; rfl)); intro w82 hw; have hg : w78.grownBy w82 (some go72) := (by rw [hw]; exact HP81.2); have hp_ : Kd.R (Kd.int .i64) 3 w82 w.heap.size (fun _ => True) (.slice (some ⟨go72, 0, none⟩) x8_3.length co79) y193 := (by rw [hw, Ny193.out]; exact HP81.1); clear HP81; have n0_ := am (hp_); have n1_ := am (blk_grown (g := gb185) (o := .cells #[.bool ((rd_T39 l0 x9_1).f0), .int .i64 ((rd_T39 l0 x9_1).f1.f0), .int .i64 ((rd_T39 l0 x9_1).f1.f1), .slice (some ad189) ((rd_T39 l0 x9_1).f2).length c184_3] 39 (0, 0)) (by (with_reducible repeat (first | refine blk_drewN ?_ _ | refine blk_drew ?_ | refine blk_alloc ?_ _)); exact BK185.out) hg (Kd.R_ne HO_8.out BK185.out (by decide))); have n2_ := am (blk_grown (g := gb190) (o := .cells #[.int .i64 ((rd_T36 ((rd_T39 l0 x9_1).f2) x11_3).f0), .int .i64 ((rd_T36 ((rd_T39 l0 x9_1).f2) x11_3).f1)] 36 (0, 0)) (by (with_reducible repeat (first | refine blk_drewN ?_ _ | refine blk_drew ?_ | refine blk_alloc ?_ _)); exact BK190.out) hg (Kd.R_ne HO_8.out BK190.out (by decide))); have n3_ := am ((by rw [hw]; exact below_set (HB.out) GB72.out : Below w.heap.size w w82)); clear HO_8; clear BK185; clear BK190; clear HB; have HO_8 := n0_; have BK185 := n1_; have BK190 := n2_; have HB := n3_; clear n0_ n1_ n2_ n3_; clear hg hw hp_))
                   go_roundg k3
                   case measure => have := HK1.out; have := HJ9.out; have := HK3.out; omega
                   case rel => exact ⟨(y193), (wrap64 (x11_3 + 1)), (by first | rfl | (simp; done) | (simp [*]; done)), H', ⟨by have := HK1.out; have := HJ9.out; have := HK3.out; omega⟩, ⟨by (with_reducible repeat (first | apply rA | apply rN | apply rD)); exact HO_8.out⟩, ⟨by (with_reducible repeat (first | refine blk_drewN ?_ _ | refine blk_drew ?_ | refine blk_alloc ?_ _)); exact BK185.out⟩, ⟨by repeat (first | (with_reducible first | exact HB.out | apply below_alloc | apply pw_below_drewN | apply below_drew1 | refine below_set ?_ GE185.out | refine below_set ?_ GE190.out) | exact HB.out)⟩⟩
                ·rw [if_neg c43] at H
                 have c43b0 : (((rd_T36 ((rd_T39 l0 x9_1).f2) x11_3).f0) == (rd x8_3 x11_3)) = false := beq_eq_false_iff_ne.mpr c43
                 have c43b1 : (((rd_T36 ((rd_T39 l0 x9_1).f2) x11_3).f0) != (rd x8_3 x11_3)) = true := bne_iff_ne.mpr c43
                 obtain rfl := Option.some.inj H
                 have hcz83_0 : wr.cell? ⟨gb185, 0, none⟩ = some (.bool ((rd_T39 l0 x9_1).f0)) := (blk_cell BK185.out 0).trans rfl
                 have hcz83_1 : wr.cell? ⟨gb185, 1, none⟩ = some (.int .i64 ((rd_T39 l0 x9_1).f1.f0)) := (blk_cell BK185.out 1).trans rfl
                 have hcz83_2 : wr.cell? ⟨gb185, 2, none⟩ = some (.int .i64 ((rd_T39 l0 x9_1).f1.f1)) := (blk_cell BK185.out 2).trans rfl
                 have hcz83_3 : wr.cell? ⟨gb185, 3, none⟩ = some (.slice A184_3 ((rd_T39 l0 x9_1).f2).length c184_3) := (blk_cell BK185.out 3).trans rfl
                 have hfz83_0 := blk_frozen BK185.out 0
                 have hfz83_1 := blk_frozen BK185.out 1
                 have hfz83_2 := blk_frozen BK185.out 2
                 have hfz83_3 := blk_frozen BK185.out 3
                 have p189 : 0 ≤ (x11_3 : Int) := of_decide_eq_true (by first | (with_reducible assumption) | assumption)
                 have q189 : x11_3 < (((rd_T39 l0 x9_1).f2).length : Int) := of_decide_eq_true (by first | (with_reducible assumption) | assumption)
                 obtain ⟨ad189, e189, hx189_0, hx189_1⟩ := at_T36 HR184_3.out x11_3 p189 q189
                 cases e189
                 replace hx189_0 := (HB.out.cell (World.block_lt_of_cell? w _ hx189_0)).trans hx189_0
                 replace hx189_1 := (HB.out.cell (World.block_lt_of_cell? w _ hx189_1)).trans hx189_1
                 replace p189 := eq_true p189
                 replace q189 := eq_true q189
                 try go_wp2_with (first | ((with_reducible refine gate_dst (N := 12) rfl ?_); (try (refine gate_guard (by rfl) ?_; dsimp only)); refine box_event ?hg (N := 12) ?hd (cs := #[.int .i64 0, .int .i64 0]) (t := 36) ?hr ?_; (case hd => rfl); (case hg => rfl); (case hr => first | (go_simp; done) | (go_simp; rfl)); intro gb190 hg w84 hbox hb; have n0_ := am (Kd.R_below (by (with_reducible repeat (first | apply rA | apply rN | apply rD)); exact HO_8.out) hb); have n1_ := am (blk_below (g := gb185) (o := .cells #[.bool ((rd_T39 l0 x9_1).f0), .int .i64 ((rd_T39 l0 x9_1).f1.f0), .int .i64 ((rd_T39 l0 x9_1).f1.f1), .slice (some ad189) ((rd_T39 l0 x9_1).f2).length c184_3] 39 (0, 0)) (by (with_reducible repeat (first | refine blk_drewN ?_ _ | refine blk_drew ?_ | refine blk_alloc ?_ _)); exact BK185.out) hb); have n2_ := am (below_step (by repeat (first | (with_reducible first | exact HB.out | apply below_alloc | apply pw_below_drewN | apply below_drew1 | refine below_set ?_ GE185.out) | exact HB.out)) hb); have n3_ := am (hbox); have n4_ := am ((by rw [hg]; exact (below_size (by repeat (first | (with_reducible first | exact HB.out | apply below_alloc | apply pw_below_drewN | apply below_drew1 | refine below_set ?_ GE185.out) | exact HB.out))) : w.heap.size ≤ gb190)); have n5_ := am ((by rw [hg]; exact (below_size (by repeat (first | (with_reducible first | exact HB.out | apply below_alloc | apply pw_below_drewN | apply below_drew1 | refine below_set ?_ GE185.out) | exact HB.out))) : w.heap.size ≤ gb190)); have n6_ := am ((by rw [hg]; exact Nat.ne_of_lt (blk_lt (g := gb185) (o := .cells #[.bool ((rd_T39 l0 x9_1).f0), .int .i64 ((rd_T39 l0 x9_1).f1.f0), .int .i64 ((rd_T39 l0 x9_1).f1.f1), .slice (some ad189) ((rd_T39 l0 x9_1).f2).length c184_3] 39 (0, 0)) (by (with_reducible repeat (first | refine blk_drewN ?_ _ | refine blk_drew ?_ | refine blk_alloc ?_ _)); exact BK185.out)) : gb185 ≠ gb190)); have n7_ := am ((by rw [hg]; exact Nat.ne_of_gt (blk_lt (g := gb185) (o := .cells #[.bool ((rd_T39 l0 x9_1).f0), .int .i64 ((rd_T39 l0 x9_1).f1.f0), .int .i64 ((rd_T39 l0 x9_1).f1.f1), .slice (some ad189) ((rd_T39 l0 x9_1).f2).length c184_3] 39 (0, 0)) (by (with_reducible repeat (first | refine blk_drewN ?_ _ | refine blk_drew ?_ | refine blk_alloc ?_ _)); exact BK185.out)) : gb190 ≠ gb185)); clear HO_8; clear BK185; clear HB; have HO_8 := n0_; have BK185 := n1_; have HB := n2_; have BK190 := n3_; have GW190 := n4_; have GE190 := n5_; have NB185_190 := n6_; have NB190_185 := n7_; clear n0_ n1_ n2_ n3_ n4_ n5_ n6_ n7_; clear hb hbox hg; have hnb85 := NB190_185.out; have hnc85 := NB185_190.out; have hcz86_0 : w84.cell? ⟨gb190, 0, none⟩ = some (.int .i64 0) := (blk_cell BK190.out 0).trans rfl; have hcz86_1 : w84.cell? ⟨gb190, 1, none⟩ = some (.int .i64 0) := (blk_cell BK190.out 1).trans rfl; have hfz86_0 := blk_frozen BK190.out 0; have hfz86_1 := blk_frozen BK190.out 1))
                 have n0_ : Aside0 (Kd.R (Kd.int .i64) 3 ((w84.setCell ⟨gb190, 0, none⟩ (.int .i64 ((rd_T36 ((rd_T39 l0 x9_1).f2) x11_3).f0))).setCell ⟨gb190, 1, none⟩ (.int .i64 ((rd_T36 ((rd_T39 l0 x9_1).f2) x11_3).f1))) w.heap.size (fun _ => True) v182 x8_3) := ⟨by (with_reducible repeat (first | apply rA | apply rN | apply rD)); exact Kd.R_mono (Kd.R_far (p := ⟨gb190, 1, none⟩) (Kd.R_far (p := ⟨gb190, 0, none⟩) (Kd.R_types HO_8.out BK190.out (by decide)) (fun _ hk => hk.2) (.int .i64 ((rd_T36 ((rd_T39 l0 x9_1).f2) x11_3).f0))) (fun _ hk => hk.2) (.int .i64 ((rd_T36 ((rd_T39 l0 x9_1).f2) x11_3).f1))) (fun _ hk => trivial)⟩
                 have n1_ : Aside0 (((w84.setCell ⟨gb190, 0, none⟩ (.int .i64 ((rd_T36 ((rd_T39 l0 x9_1).f2) x11_3).f0))).setCell ⟨gb190, 1, none⟩ (.int .i64 ((rd_T36 ((rd_T39 l0 x9_1).f2) x11_3).f1))).heap[gb185]? = some (.cells #[.bool ((rd_T39 l0 x9_1).f0), .int .i64 ((rd_T39 l0 x9_1).f1.f0), .int .i64 ((rd_T39 l0 x9_1).f1.f1), .slice (some ad189) ((rd_T39 l0 x9_1).f2).length c184_3] 39 (0, 0))) := ⟨by (with_reducible repeat (first | refine blk_drewN ?_ _ | refine blk_drew ?_ | refine blk_alloc ?_ _)); refine blk_far ?_ NB185_190.out _; (with_reducible repeat (first | refine blk_drewN ?_ _ | refine blk_drew ?_ | refine blk_alloc ?_ _)); refine blk_far ?_ NB185_190.out _; (with_reducible repeat (first | refine blk_drewN ?_ _ | refine blk_drew ?_ | refine blk_alloc ?_ _)); exact BK185.out⟩
                 have n2_ : Aside0 (((w84.setCell ⟨gb190, 0, none⟩ (.int .i64 ((rd_T36 ((rd_T39 l0 x9_1).f2) x11_3).f0))).setCell ⟨gb190, 1, none⟩ (.int .i64 ((rd_T36 ((rd_T39 l0 x9_1).f2) x11_3).f1))).heap[gb190]? = some (.cells #[.int .i64 ((rd_T36 ((rd_T39 l0 x9_1).f2) x11_3).f0), .int .i64 ((rd_T36 ((rd_T39 l0 x9_1).f2) x11_3).f1)] 36 (0, 0))) := ⟨by (with_reducible repeat (first | refine blk_drewN ?_ _ | refine blk_drew ?_ | refine blk_alloc ?_ _)); refine blk_put (cs := #[.int .i64 ((rd_T36 ((rd_T39 l0 x9_1).f2) x11_3).f0), .int .i64 0]) ?_ 1 _ rfl; (with_reducible repeat (first | refine blk_drewN ?_ _ | refine blk_drew ?_ | refine blk_alloc ?_ _)); refine blk_put (cs := #[.int .i64 0, .int .i64 0]) ?_ 0 _ rfl; (with_reducible repeat (first | refine blk_drewN ?_ _ | refine blk_drew ?_ | refine blk_alloc ?_ _)); exact BK190.out⟩
                 have n3_ : Aside0 (Below w.heap.size w ((w84.setCell ⟨gb190, 0, none⟩ (.int .i64 ((rd_T36 ((rd_T39 l0 x9_1).f2) x11_3).f0))).setCell ⟨gb190, 1, none⟩ (.int .i64 ((rd_T36 ((rd_T39 l0 x9_1).f2) x11_3).f1)))) := ⟨by repeat (first | (with_reducible first | exact HB.out | apply below_alloc | apply pw_below_drewN | apply below_drew1 | refine below_set ?_ GE185.out | refine below_set ?_ GE190.out) | exact HB.out)⟩
                 (try clear HO_8)
                 (try clear BK185)
                 (try clear BK190)
                 (try clear HB)
                 generalize ((w84.setCell ⟨gb190, 0, none⟩ (.int .i64 ((rd_T36 ((rd_T39 l0 x9_1).f2) x11_3).f0))).setCell ⟨gb190, 1, none⟩ (.int .i64 ((rd_T36 ((rd_T39 l0 x9_1).f2) x11_3).f1))) = w87 at n0_ n1_ n2_ n3_ ⊢
                 have HO_8 := n0_
                 have BK185 := n1_
                 have BK190 := n2_
                 have HB := n3_
                 clear n0_ n1_ n2_ n3_
                 have n0_ := am (Kd.R_drew HO_8.out)
                 have n1_ := am (blk_drew BK185.out)
                 have n2_ := am (blk_drew BK190.out)
                 have n3_ := am (below_drew1 HB.out)
                 clear HO_8
                 clear BK185
                 clear BK190
                 clear HB
                 have HO_8 := n0_
                 have BK185 := n1_
                 have BK190 := n2_
                 have HB := n3_
                 clear n0_ n1_ n2_ n3_
                 obtain ⟨Ao89, co89, eo89⟩ := Kd.R_slice HO_8.out
                 (first | subst eo89 | (injection eo89 with f1_ f2_ f3_; have f4_ := f1_.symm; have f5_ := f3_.symm; clear f1_ f2_ f3_; subst f4_; subst f5_))
                 have p191 : 0 ≤ (x11_3 : Int) := of_decide_eq_true (by first | (with_reducible assumption) | assumption)
                 have q191 : x11_3 < (x8_3.length : Int) := of_decide_eq_true (by first | (with_reducible assumption) | assumption)
                 obtain ⟨ad191, e191, hx191_0⟩ := Kd.at_int (Kd.R_reads' HO_8.out).2.2 x11_3 p191 q191
                 cases e191
                 replace p191 := eq_true p191
                 replace q191 := eq_true q191
                 refine start_ (n := 33) (S := fun w' => w'.cell? ⟨gb190, 0, none⟩ = some (.int .i64 ((rd_T36 ((rd_T39 l0 x9_1).f2) x11_3).f0)) ∧ w'.cell? ⟨gb190, 1, none⟩ = some (.int .i64 ((rd_T36 ((rd_T39 l0 x9_1).f2) x11_3).f1)) ∧ w'.cell? (ad191.add (x11_3).toNat) = some (.int .i64 (rd x8_3 x11_3))) (ds := []) #[false, false, false, false, false, false, false, false, false, false, false, false, false, false, false, false, false, false, false, false, false, false, false, false, false, false, false, false, false, false, false, false, false] (by kernel_rfl) rfl rfl ⟨(blk_cell BK190.out 0).trans rfl, (blk_cell BK190.out 1).trans rfl, hx191_0⟩ (fun hHeld => ?_); refine with_tabW sennitlaw05_covers.tab14 sennitlaw05_covers.bits14 (fun HT_ HW_ => ?_)
                 generalize w87.drew = w88 at HO_8 BK185 BK190 HB hx191_0 hHeld ⊢
                 refine pN HT_.out 0 80 ?_
                 refine pN HT_.out 2 82 ?_
                 refine pN HT_.out 3 83 ?_
                 refine pN HT_.out 4 84 ?_
                 refine take_ (i := 1) (N := some 81) (v := ?_) (a' := ?_) #[true, true, true, true, true, false, false, false, false, false, false, false, false, false, false, false, false, false, false, false, false, false, false, false, false, false, false, false, false, false, false, false, false] rfl rfl (take_ofW HT_.out HW_.out (by kernel_rfl)) (fun _ _ _ h => h) (Or.inl ⟨by rfl, ?_⟩) hHeld ?_ ?_
                 rotate_left
                 ·rintro w' ⟨s0, s1, s2⟩
                  go_simp
                  with_reducible rfl
                 rotate_left
                 ·simp only [Act.put, List.setIfInBounds_toArray, List.set_cons_zero, List.set_cons_succ, i64_w, i32_w]
                  rfl
                 refine take_ (i := 5) (N := some 85) (v := ?_) (a' := ?_) #[true, true, true, true, true, true, false, false, false, false, false, false, false, false, false, false, false, false, false, false, false, false, false, false, false, false, false, false, false, false, false, false, false] rfl rfl (take_ofW HT_.out HW_.out (by kernel_rfl)) (fun _ _ _ h => h) (Or.inl ⟨by rfl, ?_⟩) hHeld ?_ ?_
                 rotate_left
                 ·rintro w' ⟨s0, s1, s2⟩
                  go_simp
                  with_reducible rfl
                 rotate_left
                 ·simp only [Act.put, List.setIfInBounds_toArray, List.set_cons_zero, List.set_cons_succ, i64_w, i32_w]
                  rfl
                 refine pN HT_.out 6 86 ?_
                 refine pN HT_.out 7 87 ?_
                 refine pU HT_.out 8 88 ?_
                 refine pU HT_.out 9 89 ?_
                 refine pU HT_.out 10 90 ?_
                 refine pU HT_.out 11 91 ?_
                 refine pU HT_.out 12 92 ?_
                 refine pN HT_.out 13 93 ?_
                 refine pN HT_.out 14 94 ?_
                 refine pU HT_.out 15 95 ?_
                 refine pU HT_.out 16 96 ?_
                 refine pU HT_.out 17 97 ?_
                 refine pU HT_.out 18 98 ?_
                 refine pU HT_.out 19 99 ?_
                 refine pU HT_.out 20 100 ?_
                 refine pU HT_.out 21 101 ?_
                 refine pU HT_.out 22 102 ?_
                 refine pU HT_.out 23 103 ?_
                 refine pU HT_.out 24 104 ?_
                 refine pU HT_.out 25 105 ?_
                 refine pU HT_.out 26 106 ?_
                 refine pU HT_.out 27 107 ?_
                 refine pU HT_.out 28 108 ?_
                 refine pU HT_.out 29 109 ?_
                 refine pU HT_.out 30 110 ?_
                 refine pU HT_.out 31 111 ?_
                 refine pN HT_.out 32 112 ?_
                 refine done_ (done_of HT_.out (by kernel_rfl)) ?_
                 try go_wp2
                 go_ret
                 exact ⟨by first | rfl | (simp [errW_none, errW_some] <;> rfl) | (simp [*, errW_none, errW_some] <;> rfl), by repeat (first | (with_reducible first | exact HB.out | apply below_alloc | apply pw_below_drewN | apply below_drew1 | refine below_set ?_ GE185.out | refine below_set ?_ GE190.out) | exact HB.out)⟩
               ·rw [if_neg c42] at H
                exact absurd H (by simp)
              ·rw [if_neg c41] at H
               exact absurd H (by simp)
             ·rw [if_neg c40] at H
              exact absurd H (by simp)
            ·rw [if_neg c39] at H
             have c39b0 : decide (x11_3 < (l2.length : Int)) = false := decide_eq_false c39
             clear c39
             have H' := am H
             clear H
             go_wp2
             go_roundg k3
             case measure => have := HK1.out; have := HJ9.out; have := HK3.out; omega
             case rel => exact ⟨(((rd_T39 l0 x9_1).f1.f1)), (x8_3), (wrap64 (x9_1 + 1)), (by first | rfl | (simp; done) | (simp [*]; done)), (by first | rfl | (simp; done) | (simp [*]; done)), H', ⟨by have := HK1.out; have := HJ9.out; have := HK3.out; omega⟩, ⟨by (with_reducible repeat (first | apply rA | apply rN | apply rD)); exact HO_8.out⟩, ⟨by repeat (first | (with_reducible first | exact HB.out | apply below_alloc | apply pw_below_drewN | apply below_drew1 | refine below_set ?_ GE185.out) | exact HB.out)⟩⟩
      ·rw [if_neg c9] at H
       exact absurd H (by simp)
     ·rw [if_neg c8] at H
      have c8b0 : decide (x9_1 < (l0.length : Int)) = false := decide_eq_false c8
      clear c8
      have H' := am H
      clear H
      go_wp2
      go_loopg [13] k1 (fun kq v13 w' => ∃ (x13_2 : Int), v13 = .int .i64 x13_2 ∧ Aside0 (sennitlaw05_covers.l2 kq a1 l2 x7_1 x8_1 x13_2 = some r) ∧ Aside0 (kq ≤ k1) ∧ Aside0 (Kd.R (Kd.int .i64) 3 w' w.heap.size (fun _ => True) v182 x8_1) ∧ Aside0 (Below w.heap.size w w'))
      case atStart => exact ⟨(0), (by first | rfl | (simp; done) | (simp [*]; done)), H', ⟨Nat.le_refl _⟩, ⟨by (with_reducible repeat (first | apply rA | apply rN | apply rD)); exact HO_8.out⟩, ⟨by repeat (with_reducible first | exact HB.out | apply bA | apply bN | apply bD)⟩⟩
      case round =>
       clear H'
       (try clear c1); (try clear p1); (try clear q1); (try clear hx1); (try clear p2); (try clear c3); (try clear c4); (try clear c5); (try clear p6); (try clear c7); (try clear p7); (try clear q7); (try clear hx7); (try clear hf7); (try clear c8); (try clear c8b0); (try clear c9); (try clear c18); (try clear p18); (try clear q18); (try clear hx18); (try clear p19); (try clear q19); (try clear hx19); (try clear c39); (try clear c39b0); (try clear c40); (try clear c41); (try clear c42); (try clear c43); (try clear c43b0); (try clear c43b1); (try clear c52); (try clear c52b0); (try clear p64); (try clear p72); (try clear q72); (try clear hx72); (try clear hf72); (try clear c75); (try clear c85); (try clear hcz73_0); (try clear hcz73_1); (try clear hcz73_2); (try clear hcz73_3); (try clear hcz76_0); (try clear hcz76_1); (try clear hcz80_0); (try clear hcz80_1); (try clear hcz83_0); (try clear hcz83_1); (try clear hcz83_2); (try clear hcz83_3); (try clear hcz86_0); (try clear hcz86_1); (try clear hfz73_0); (try clear hfz73_1); (try clear hfz73_2); (try clear hfz73_3); (try clear hfz76_0); (try clear hfz76_1); (try clear hfz80_0); (try clear hfz80_1); (try clear hfz83_0); (try clear hfz83_1); (try clear hfz83_2); (try clear hfz83_3); (try clear hfz86_0); (try clear hfz86_1); (try clear hx189_0); (try clear hx189_1); (try clear hx191_0); (try clear hx72_0); (try clear p189); (try clear p191); (try clear p72); (try clear q189); (try clear q191); (try clear q72)
       obtain ⟨x13_2, rfl, HA, HK2, HO_8, HB⟩ := hrel
       cases gk with
       | zero => exact absurd HA.out (by simp [sennitlaw05_covers.l2])
       | succ k2 =>
        have H := HA.out
        clear HA
        simp only [sennitlaw05_covers.l2] at H
        by_cases c90 : x13_2 < (l2.length : Int)
        ·rw [if_pos c90] at H
         have c90b0 : decide (x13_2 < (l2.length : Int)) = true := decide_eq_true c90
         clear c90
         by_cases c91 : 0 ≤ x13_2
         ·rw [if_pos c91] at H
          have c91b0 : decide (0 ≤ x13_2) = true := decide_eq_true c91
          clear c91
          by_cases c92 : x13_2 < (x8_1.length : Int)
          ·rw [if_pos c92] at H
           have c92b0 : decide (x13_2 < (x8_1.length : Int)) = true := decide_eq_true c92
           clear c92
           by_cases c93 : (rd x8_1 x13_2) = (rd l2 x13_2)
           ·rw [if_pos c93] at H
            have c93b0 : ((rd x8_1 x13_2) == (rd l2 x13_2)) = true := beq_iff_eq.mpr c93
            have c93b1 : ((rd x8_1 x13_2) != (rd l2 x13_2)) = false := bne_eq_false_iff_eq.mpr c93
            clear c93
            have H' := am H
            clear H
            try go_wp2
            have n0_ := am (Kd.R_drew HO_8.out)
            have n1_ := am (below_drew1 HB.out)
            clear HO_8
            clear HB
            have HO_8 := n0_
            have HB := n1_
            clear n0_ n1_
            obtain ⟨Ao95, co95, eo95⟩ := Kd.R_slice HO_8.out
            (first | subst eo95 | (injection eo95 with f1_ f2_ f3_; have f4_ := f1_.symm; have f5_ := f3_.symm; clear f1_ f2_ f3_; subst f4_; subst f5_))
            have p194 : 0 ≤ (x13_2 : Int) := of_decide_eq_true (by first | (with_reducible assumption) | assumption)
            have q194 : x13_2 < (x8_1.length : Int) := of_decide_eq_true (by first | (with_reducible assumption) | assumption)
            obtain ⟨ad194, e194, hx194_0⟩ := Kd.at_int (Kd.R_reads' HO_8.out).2.2 x13_2 p194 q194
            cases e194
            replace p194 := eq_true p194
            replace q194 := eq_true q194
            have p195 : 0 ≤ (x13_2 : Int) := of_decide_eq_true (by first | (with_reducible assumption) | assumption)
            have q195 : x13_2 < (l2.length : Int) := of_decide_eq_true (by first | (with_reducible assumption) | assumption)
            obtain ⟨ad195, e195, hx195_0⟩ := Kd.at_int HR2.out x13_2 p195 q195
            have hw195_0 := hx195_0
            cases e195
            replace hx195_0 := (HB.out.cell (World.block_lt_of_cell? w _ hx195_0)).trans hx195_0
            replace p195 := eq_true p195
            replace q195 := eq_true q195
            refine start_ (n := 9) (S := fun w' => w'.cell? (ad194.add (x13_2).toNat) = some (.int .i64 (rd x8_1 x13_2)) ∧ w'.cell? (ad195.add (x13_2).toNat) = some (.int .i64 (rd l2 x13_2))) (ds := []) #[false, false, false, false, false, false, false, false, false] (by kernel_rfl) rfl rfl ⟨hx194_0, ((HB.out.cell (World.block_lt_of_cell? w _ hw195_0)).trans hw195_0)⟩ (fun hHeld => ?_); refine with_tabW sennitlaw05_covers.tab20 sennitlaw05_covers.bits20 (fun HT_ HW_ => ?_)
            generalize wr.drew = w94 at HO_8 HB hx194_0 hx195_0 hHeld ⊢
            refine pN HT_.out 0 124 ?_
            refine pN HT_.out 1 125 ?_
            refine pN HT_.out 2 126 ?_
            refine pN HT_.out 4 128 ?_
            refine pN HT_.out 5 129 ?_
            refine pN HT_.out 6 130 ?_
            refine take_ (i := 3) (N := some 127) (v := ?_) (a' := ?_) #[true, true, true, true, true, true, true, false, false] rfl rfl (take_ofW HT_.out HW_.out (by kernel_rfl)) (fun _ _ _ h => h) (Or.inl ⟨by rfl, ?_⟩) hHeld ?_ ?_
            rotate_left
            ·rintro w' ⟨s0, s1⟩
             go_simp
             with_reducible rfl
            rotate_left
            ·simp only [Act.put, List.setIfInBounds_toArray, List.set_cons_zero, List.set_cons_succ, i64_w, i32_w]
             rfl
            refine take_ (i := 7) (N := some 131) (v := ?_) (a' := ?_) #[true, true, true, true, true, true, true, true, false] rfl rfl (take_ofW HT_.out HW_.out (by kernel_rfl)) (fun _ _ _ h => h) (Or.inl ⟨by rfl, ?_⟩) hHeld ?_ ?_
            rotate_left
            ·rintro w' ⟨s0, s1⟩
             go_simp
             with_reducible rfl
            rotate_left
            ·simp only [Act.put, List.setIfInBounds_toArray, List.set_cons_zero, List.set_cons_succ, i64_w, i32_w]
             rfl
            refine pN HT_.out 8 132 ?_
            refine done_ (done_of HT_.out (by kernel_rfl)) ?_
            try go_wp2
            go_roundg k2
            case measure => have := HK1.out; have := HK2.out; omega
            case rel => exact ⟨(wrap64 (x13_2 + 1)), (by first | rfl | (simp; done) | (simp [*]; done)), H', ⟨by have := HK1.out; have := HK2.out; omega⟩, ⟨by (with_reducible repeat (first | apply rA | apply rN | apply rD)); exact HO_8.out⟩, ⟨by repeat (with_reducible first | exact HB.out | apply bA | apply bN | apply bD)⟩⟩
           ·rw [if_neg c93] at H
            have c93b0 : ((rd x8_1 x13_2) == (rd l2 x13_2)) = false := beq_eq_false_iff_ne.mpr c93
            have c93b1 : ((rd x8_1 x13_2) != (rd l2 x13_2)) = true := bne_iff_ne.mpr c93
            obtain rfl := Option.some.inj H
            try go_wp2
            have n0_ := am (Kd.R_drew HO_8.out)
            have n1_ := am (below_drew1 HB.out)
            clear HO_8
            clear HB
            have HO_8 := n0_
            have HB := n1_
            clear n0_ n1_
            obtain ⟨Ao97, co97, eo97⟩ := Kd.R_slice HO_8.out
            (first | subst eo97 | (injection eo97 with f1_ f2_ f3_; have f4_ := f1_.symm; have f5_ := f3_.symm; clear f1_ f2_ f3_; subst f4_; subst f5_))
            have p194 : 0 ≤ (x13_2 : Int) := of_decide_eq_true (by first | (with_reducible assumption) | assumption)
            have q194 : x13_2 < (x8_1.length : Int) := of_decide_eq_true (by first | (with_reducible assumption) | assumption)
            obtain ⟨ad194, e194, hx194_0⟩ := Kd.at_int (Kd.R_reads' HO_8.out).2.2 x13_2 p194 q194
            cases e194
            replace p194 := eq_true p194
            replace q194 := eq_true q194
            have p195 : 0 ≤ (x13_2 : Int) := of_decide_eq_true (by first | (with_reducible assumption) | assumption)
            have q195 : x13_2 < (l2.length : Int) := of_decide_eq_true (by first | (with_reducible assumption) | assumption)
            obtain ⟨ad195, e195, hx195_0⟩ := Kd.at_int HR2.out x13_2 p195 q195
            have hw195_0 := hx195_0
            cases e195
            replace hx195_0 := (HB.out.cell (World.block_lt_of_cell? w _ hx195_0)).trans hx195_0
            replace p195 := eq_true p195
            replace q195 := eq_true q195
            refine start_ (n := 9) (S := fun w' => w'.cell? (ad194.add (x13_2).toNat) = some (.int .i64 (rd x8_1 x13_2)) ∧ w'.cell? (ad195.add (x13_2).toNat) = some (.int .i64 (rd l2 x13_2))) (ds := []) #[false, false, false, false, false, false, false, false, false] (by kernel_rfl) rfl rfl ⟨hx194_0, ((HB.out.cell (World.block_lt_of_cell? w _ hw195_0)).trans hw195_0)⟩ (fun hHeld => ?_); refine with_tabW sennitlaw05_covers.tab20 sennitlaw05_covers.bits20 (fun HT_ HW_ => ?_)
            generalize wr.drew = w96 at HO_8 HB hx194_0 hx195_0 hHeld ⊢
            refine pN HT_.out 0 124 ?_
            refine pN HT_.out 1 125 ?_
            refine pN HT_.out 2 126 ?_
            refine pN HT_.out 4 128 ?_
            refine pN HT_.out 5 129 ?_
            refine pN HT_.out 6 130 ?_
            refine take_ (i := 3) (N := some 127) (v := ?_) (a' := ?_) #[true, true, true, true, true, true, true, false, false] rfl rfl (take_ofW HT_.out HW_.out (by kernel_rfl)) (fun _ _ _ h => h) (Or.inl ⟨by rfl, ?_⟩) hHeld ?_ ?_
            rotate_left
            ·rintro w' ⟨s0, s1⟩
             go_simp
             with_reducible rfl
            rotate_left
            ·simp only [Act.put, List.setIfInBounds_toArray, List.set_cons_zero, List.set_cons_succ, i64_w, i32_w]
             rfl
            refine take_ (i := 7) (N := some 131) (v := ?_) (a' := ?_) #[true, true, true, true, true, true, true, true, false] rfl rfl (take_ofW HT_.out HW_.out (by kernel_rfl)) (fun _ _ _ h => h) (Or.inl ⟨by rfl, ?_⟩) hHeld ?_ ?_
            rotate_left
            ·rintro w' ⟨s0, s1⟩
             go_simp
             with_reducible rfl
            rotate_left
            ·simp only [Act.put, List.setIfInBounds_toArray, List.set_cons_zero, List.set_cons_succ, i64_w, i32_w]
             rfl
            refine pN HT_.out 8 132 ?_
            refine done_ (done_of HT_.out (by kernel_rfl)) ?_
            try go_wp2
            go_ret
            exact ⟨by first | rfl | (simp [errW_none, errW_some] <;> rfl) | (simp [*, errW_none, errW_some] <;> rfl), by repeat (with_reducible first | exact HB.out | apply bA | apply bN | apply bD)⟩
          ·rw [if_neg c92] at H
           exact absurd H (by simp)
         ·rw [if_neg c91] at H
          exact absurd H (by simp)
        ·rw [if_neg c90] at H
         have c90b0 : decide (x13_2 < (l2.length : Int)) = false := decide_eq_false c90
         clear c90
         obtain rfl := Option.some.inj H
         go_wp2
         go_ret
         exact ⟨by first | rfl | (simp [errW_none, errW_some] <;> rfl) | (simp [*, errW_none, errW_some] <;> rfl), by repeat (with_reducible first | exact HB.out | apply bA | apply bN | apply bD)⟩
  ·rw [if_neg c5] at H
   exact absurd H (by simp)
 ·rw [if_neg c4] at H
  exact absurd H (by simp)

end Go.Proofs.Ytnebadlakmlkkaa.M
