/- Texts of the claim ZealTells, put together (part 7): By a program of this session: a Go function as a Lean function, and that the machine's call does what it says. By a program of this session: a Go function as a Lean function, and that the machine's call does what it says. By a program of this session: a Go function as a Lean function, and that the machine's call does what it says. -/
import Derived.ArgAppend
import Derived.Below
import Derived.BigQuiet
import Derived.Deep.AppendLies
import Derived.Deep.CutBlock
import Derived.Deep.DeepCutAuto
import Derived.Deep.Draws
import Derived.Deep.LoopGhost
import Derived.Deep.OwnRows
import Derived.Deep.QuietTactic
import Derived.Deep.RegionHeld3
import Derived.KernelRfl
import Derived.Laws.BitsLemmas
import Derived.Laws.BytesArg
import Derived.Laws.IdiomCopy
import Derived.Laws.MakeOwn
import Derived.Laws.OwnMore
import Derived.Laws.Rows
import Derived.Laws.Slices
import Derived.Laws.StructEq
import Derived.Lib.AppendStr
import Derived.Lib.ConvBytes
import Derived.Maps.AppendAt
import Derived.OrdersHeld
import Derived.OwnWalk
import Derived.RowKit
import Derived.RowKit3
import Derived.Tactics
import Derived.Test.YtiaoppikdgoieaaProg
import Derived.WalkKit
import Derived.WideLaws
import Derived.Test.YtiaoppikdgoieaaZealTellsQ6
namespace Go.Proofs.Ytiaoppikdgoieaa.M
open Go.RowKit Go.Proofs.YtiaoppikdgoieaaW.PrintWords Go.Proofs.YtiaoppikdgoieaaW.PrintLast Go.Proofs.YtiaoppikdgoieaaW.PrintMore Go.Proofs.Ytiaoppikdgoieaa.Hand
attribute [local go_sem] max2_int min2_int max_two min_two max_three min_three max_four min_four
set_option linter.unusedVariables false
set_option linter.unusedSimpArgs false

/-! ### sennitref10_Trim: function 37 -/
mutual
def sennitref10_Trim.j0 : Nat → Bool → Bool → List ByteArray → List ByteArray → List (List ByteArray) → Option ((List (S27)))
 | 0, _, _, _, _, _ => none
 | k + 1, x19, x296000, x296001, x296002, x296003 => if x19 = true then ((sennitref07_Normal.f k (([(⟨x296000, x296001, x296002, x296003⟩ : S27)] : List (S27)))).bind fun t299 => (some t299)) else (if 0 < (x296003.length : Int) then (if 0 ≤ ((rd_L1 x296003 0).length : Int) then (sennitref10_Trim.l0 k ((rd_L1 x296003 0).drop 0) 0 x296000 x296001 x296002 x296003) else (none)) else (none))
def sennitref10_Trim.j2 : Nat → List ByteArray → Int → Bool → List ByteArray → List ByteArray → List (List ByteArray) → Option ((List (S27)))
 | 0, _, _, _, _, _, _ => none
 | k + 1, x3, x4, x296000, x296001, x296002, x296003 => sennitref10_Trim.l1 k x3 x4 ([] : List (List ByteArray)) true 0 x296000 x296001 x296002 x296003
def sennitref10_Trim.l1 : Nat → List ByteArray → Int → List (List ByteArray) → Bool → Int → Bool → List ByteArray → List ByteArray → List (List ByteArray) → Option ((List (S27)))
 | 0, _, _, _, _, _, _, _, _, _ => none
 | k + 1, x3, x4, x5, x6, x7, x296000, x296001, x296002, x296003 => if x7 < (x296003.length : Int) then (if 0 ≤ x7 then (if 0 ≤ x4 then (if x4 ≤ ((rd_L1 x296003 x7).length : Int) then (if x5.length < 5864062014805 then ((some (x5 ++ [((rd_L1 x296003 x7).drop (x4 : Int).toNat)] : List (List ByteArray))).bind fun y315 => (if x6 = true then (sennitref10_Trim.l1 k x3 x4 y315 (((rd_L1 x296003 x7).length : Int) == x4) (wrap64 (x7 + 1)) x296000 x296001 x296002 x296003) else (sennitref10_Trim.l1 k x3 x4 y315 false (wrap64 (x7 + 1)) x296000 x296001 x296002 x296003))) else (none)) else (none)) else (none)) else (none)) else (if x6 = true then ((sennitref07_Normal.f k (([(⟨false, x3, ([] : List ByteArray), ([] : List (List ByteArray))⟩ : S27)] : List (S27)))).bind fun t322 => (some t322)) else (sennitref10_Trim.l2 k x3 x4 x5 0 x296000 x296001 x296002 x296003))
def sennitref10_Trim.j5 : Nat → List ByteArray → Int → List (List ByteArray) → Int → Bool → List ByteArray → List ByteArray → List (List ByteArray) → Option ((List (S27)))
 | 0, _, _, _, _, _, _, _, _ => none
 | k + 1, x3, x4, x5, x8, x296000, x296001, x296002, x296003 => sennitref10_Trim.l3 k x3 x4 x5 x8 ([] : List (List ByteArray)) 0 x296000 x296001 x296002 x296003
def sennitref10_Trim.l3 : Nat → List ByteArray → Int → List (List ByteArray) → Int → List (List ByteArray) → Int → Bool → List ByteArray → List ByteArray → List (List ByteArray) → Option ((List (S27)))
 | 0, _, _, _, _, _, _, _, _, _, _ => none
 | k + 1, x3, x4, x5, x8, x9, x10, x296000, x296001, x296002, x296003 => if x10 < (x5.length : Int) then (if 0 ≤ x10 then (if 0 ≤ (wrap64 (((rd_L1 x5 x10).length : Int) - x8)) then (if (wrap64 (((rd_L1 x5 x10).length : Int) - x8)) ≤ ((rd_L1 x5 x10).length : Int) then (if x9.length < 5864062014805 then (sennitref10_Trim.l3 k x3 x4 x5 x8 (x9 ++ [((rd_L1 x5 x10).take ((wrap64 (((rd_L1 x5 x10).length : Int) - x8)) : Int).toNat)]) (wrap64 (x10 + 1)) x296000 x296001 x296002 x296003) else (none)) else (none)) else (none)) else (none)) else (if 0 ≤ x4 then (if x4 ≤ (x3.length : Int) then (if 0 ≤ (wrap64 ((x3.length : Int) - x8)) then (if (wrap64 ((x3.length : Int) - x8)) ≤ (x3.length : Int) then ((sennitref07_Normal.f k (([(⟨false, (x3.take (x4 : Int).toNat), ([] : List ByteArray), ([] : List (List ByteArray))⟩ : S27), (⟨true, ([] : List ByteArray), x296002, x9⟩ : S27), (⟨false, (x3.drop ((wrap64 ((x3.length : Int) - x8)) : Int).toNat), ([] : List ByteArray), ([] : List (List ByteArray))⟩ : S27)] : List (S27)))).bind fun t350 => (some t350)) else (none)) else (none)) else (none)) else (none))
def sennitref10_Trim.l2 : Nat → List ByteArray → Int → List (List ByteArray) → Int → Bool → List ByteArray → List ByteArray → List (List ByteArray) → Option ((List (S27)))
 | 0, _, _, _, _, _, _, _, _ => none
 | k + 1, x3, x4, x5, x8, x296000, x296001, x296002, x296003 => if 0 < (x5.length : Int) then (if x8 < ((rd_L1 x5 0).length : Int) then ((sennitref10_ends.f k x5 (wrap64 (x8 + 1))).bind fun t326 => (if t326 = true then (sennitref10_Trim.l2 k x3 x4 x5 (wrap64 (x8 + 1)) x296000 x296001 x296002 x296003) else (sennitref10_Trim.j5 k x3 x4 x5 x8 x296000 x296001 x296002 x296003))) else (sennitref10_Trim.j5 k x3 x4 x5 x8 x296000 x296001 x296002 x296003)) else (none)
def sennitref10_Trim.l0 : Nat → List ByteArray → Int → Bool → List ByteArray → List ByteArray → List (List ByteArray) → Option ((List (S27)))
 | 0, _, _, _, _, _, _ => none
 | k + 1, x3, x4, x296000, x296001, x296002, x296003 => if x4 < (x3.length : Int) then ((sennitref10_begins.f k x296003 (wrap64 (x4 + 1))).bind fun t308 => (if t308 = true then (sennitref10_Trim.l0 k x3 (wrap64 (x4 + 1)) x296000 x296001 x296002 x296003) else (sennitref10_Trim.j2 k x3 x4 x296000 x296001 x296002 x296003))) else (sennitref10_Trim.j2 k x3 x4 x296000 x296001 x296002 x296003)
end
def sennitref10_Trim.f (k : Nat) (a0_0 : Bool) (l0_1 : List ByteArray) (l0_2 : List ByteArray) (l0_3 : List (List ByteArray)) : Option ((List (S27))) := if a0_0 = true then (sennitref10_Trim.j0 k ((l0_3.length : Int) == 0) a0_0 l0_1 l0_2 l0_3) else (sennitref10_Trim.j0 k true a0_0 l0_1 l0_2 l0_3)
theorem sennitref10_Trim.mono_l : ∀ k, (∀ y0 y1 y2 y3 y4, LeO (sennitref10_Trim.j0 k y0 y1 y2 y3 y4) (sennitref10_Trim.j0 (k + 1) y0 y1 y2 y3 y4)) ∧ (∀ y0 y1 y2 y3 y4 y5, LeO (sennitref10_Trim.j2 k y0 y1 y2 y3 y4 y5) (sennitref10_Trim.j2 (k + 1) y0 y1 y2 y3 y4 y5)) ∧ (∀ y0 y1 y2 y3 y4 y5 y6 y7 y8, LeO (sennitref10_Trim.l1 k y0 y1 y2 y3 y4 y5 y6 y7 y8) (sennitref10_Trim.l1 (k + 1) y0 y1 y2 y3 y4 y5 y6 y7 y8)) ∧ (∀ y0 y1 y2 y3 y4 y5 y6 y7, LeO (sennitref10_Trim.j5 k y0 y1 y2 y3 y4 y5 y6 y7) (sennitref10_Trim.j5 (k + 1) y0 y1 y2 y3 y4 y5 y6 y7)) ∧ (∀ y0 y1 y2 y3 y4 y5 y6 y7 y8 y9, LeO (sennitref10_Trim.l3 k y0 y1 y2 y3 y4 y5 y6 y7 y8 y9) (sennitref10_Trim.l3 (k + 1) y0 y1 y2 y3 y4 y5 y6 y7 y8 y9)) ∧ (∀ y0 y1 y2 y3 y4 y5 y6 y7, LeO (sennitref10_Trim.l2 k y0 y1 y2 y3 y4 y5 y6 y7) (sennitref10_Trim.l2 (k + 1) y0 y1 y2 y3 y4 y5 y6 y7)) ∧ (∀ y0 y1 y2 y3 y4 y5, LeO (sennitref10_Trim.l0 k y0 y1 y2 y3 y4 y5) (sennitref10_Trim.l0 (k + 1) y0 y1 y2 y3 y4 y5))
 | 0 => ⟨fun _ _ _ _ _ r h => by simp [sennitref10_Trim.j0] at h, fun _ _ _ _ _ _ r h => by simp [sennitref10_Trim.j2] at h, fun _ _ _ _ _ _ _ _ _ r h => by simp [sennitref10_Trim.l1] at h, fun _ _ _ _ _ _ _ _ r h => by simp [sennitref10_Trim.j5] at h, fun _ _ _ _ _ _ _ _ _ _ r h => by simp [sennitref10_Trim.l3] at h, fun _ _ _ _ _ _ _ _ r h => by simp [sennitref10_Trim.l2] at h, fun _ _ _ _ _ _ r h => by simp [sennitref10_Trim.l0] at h⟩
 | k + 1 => by
  obtain ⟨ih0, ih1, ih2, ih3, ih4, ih5, ih6⟩ := sennitref10_Trim.mono_l k
  refine ⟨?_, ?_, ?_, ?_, ?_, ?_, ?_⟩
  ·intro y0 y1 y2 y3 y4
   unfold sennitref10_Trim.j0
   repeat' first
   | (with_reducible exact ih0 _ _ _ _ _)
   | (with_reducible exact ih1 _ _ _ _ _ _)
   | (with_reducible exact ih2 _ _ _ _ _ _ _ _ _)
   | (with_reducible exact ih3 _ _ _ _ _ _ _ _)
   | (with_reducible exact ih4 _ _ _ _ _ _ _ _ _ _)
   | (with_reducible exact ih5 _ _ _ _ _ _ _ _)
   | (with_reducible exact ih6 _ _ _ _ _ _)
   | (with_reducible exact sennitref07_Normal.mono _ _)
   | (with_reducible exact sennitref10_begins.mono _ _ _)
   | (with_reducible exact sennitref10_ends.mono _ _ _)
   | (with_reducible exact LeO.refl _)
   | (with_reducible exact LeO.none _)
   | (with_reducible refine LeO.ite ?_ ?_)
   | (with_reducible refine LeO.bind ?_ (fun _ => ?_))
   | exact ih0 _ _ _ _ _
   | exact ih1 _ _ _ _ _ _
   | exact ih2 _ _ _ _ _ _ _ _ _
   | exact ih3 _ _ _ _ _ _ _ _
   | exact ih4 _ _ _ _ _ _ _ _ _ _
   | exact ih5 _ _ _ _ _ _ _ _
   | exact ih6 _ _ _ _ _ _
   | exact sennitref07_Normal.mono _ _
   | exact sennitref10_begins.mono _ _ _
   | exact sennitref10_ends.mono _ _ _
   | exact LeO.none _
   | refine LeO.ite ?_ ?_
   | refine LeO.bind ?_ (fun _ => ?_)
  ·intro y0 y1 y2 y3 y4 y5
   unfold sennitref10_Trim.j2
   repeat' first
   | (with_reducible exact ih0 _ _ _ _ _)
   | (with_reducible exact ih1 _ _ _ _ _ _)
   | (with_reducible exact ih2 _ _ _ _ _ _ _ _ _)
   | (with_reducible exact ih3 _ _ _ _ _ _ _ _)
   | (with_reducible exact ih4 _ _ _ _ _ _ _ _ _ _)
   | (with_reducible exact ih5 _ _ _ _ _ _ _ _)
   | (with_reducible exact ih6 _ _ _ _ _ _)
   | (with_reducible exact sennitref07_Normal.mono _ _)
   | (with_reducible exact sennitref10_begins.mono _ _ _)
   | (with_reducible exact sennitref10_ends.mono _ _ _)
   | (with_reducible exact LeO.refl _)
   | (with_reducible exact LeO.none _)
   | (with_reducible refine LeO.ite ?_ ?_)
   | (with_reducible refine LeO.bind ?_ (fun _ => ?_))
   | exact ih0 _ _ _ _ _
   | exact ih1 _ _ _ _ _ _
   | exact ih2 _ _ _ _ _ _ _ _ _
   | exact ih3 _ _ _ _ _ _ _ _
   | exact ih4 _ _ _ _ _ _ _ _ _ _
   | exact ih5 _ _ _ _ _ _ _ _
   | exact ih6 _ _ _ _ _ _
   | exact sennitref07_Normal.mono _ _
   | exact sennitref10_begins.mono _ _ _
   | exact sennitref10_ends.mono _ _ _
   | exact LeO.none _
   | refine LeO.ite ?_ ?_
   | refine LeO.bind ?_ (fun _ => ?_)
  ·intro y0 y1 y2 y3 y4 y5 y6 y7 y8
   unfold sennitref10_Trim.l1
   repeat' first
   | (with_reducible exact ih0 _ _ _ _ _)
   | (with_reducible exact ih1 _ _ _ _ _ _)
   | (with_reducible exact ih2 _ _ _ _ _ _ _ _ _)
   | (with_reducible exact ih3 _ _ _ _ _ _ _ _)
   | (with_reducible exact ih4 _ _ _ _ _ _ _ _ _ _)
   | (with_reducible exact ih5 _ _ _ _ _ _ _ _)
   | (with_reducible exact ih6 _ _ _ _ _ _)
   | (with_reducible exact sennitref07_Normal.mono _ _)
   | (with_reducible exact sennitref10_begins.mono _ _ _)
   | (with_reducible exact sennitref10_ends.mono _ _ _)
   | (with_reducible exact LeO.refl _)
   | (with_reducible exact LeO.none _)
   | (with_reducible refine LeO.ite ?_ ?_)
   | (with_reducible refine LeO.bind ?_ (fun _ => ?_))
   | exact ih0 _ _ _ _ _
   | exact ih1 _ _ _ _ _ _
   | exact ih2 _ _ _ _ _ _ _ _ _
   | exact ih3 _ _ _ _ _ _ _ _
   | exact ih4 _ _ _ _ _ _ _ _ _ _
   | exact ih5 _ _ _ _ _ _ _ _
   | exact ih6 _ _ _ _ _ _
   | exact sennitref07_Normal.mono _ _
   | exact sennitref10_begins.mono _ _ _
   | exact sennitref10_ends.mono _ _ _
   | exact LeO.none _
   | refine LeO.ite ?_ ?_
   | refine LeO.bind ?_ (fun _ => ?_)
  ·intro y0 y1 y2 y3 y4 y5 y6 y7
   unfold sennitref10_Trim.j5
   repeat' first
   | (with_reducible exact ih0 _ _ _ _ _)
   | (with_reducible exact ih1 _ _ _ _ _ _)
   | (with_reducible exact ih2 _ _ _ _ _ _ _ _ _)
   | (with_reducible exact ih3 _ _ _ _ _ _ _ _)
   | (with_reducible exact ih4 _ _ _ _ _ _ _ _ _ _)
   | (with_reducible exact ih5 _ _ _ _ _ _ _ _)
   | (with_reducible exact ih6 _ _ _ _ _ _)
   | (with_reducible exact sennitref07_Normal.mono _ _)
   | (with_reducible exact sennitref10_begins.mono _ _ _)
   | (with_reducible exact sennitref10_ends.mono _ _ _)
   | (with_reducible exact LeO.refl _)
   | (with_reducible exact LeO.none _)
   | (with_reducible refine LeO.ite ?_ ?_)
   | (with_reducible refine LeO.bind ?_ (fun _ => ?_))
   | exact ih0 _ _ _ _ _
   | exact ih1 _ _ _ _ _ _
   | exact ih2 _ _ _ _ _ _ _ _ _
   | exact ih3 _ _ _ _ _ _ _ _
   | exact ih4 _ _ _ _ _ _ _ _ _ _
   | exact ih5 _ _ _ _ _ _ _ _
   | exact ih6 _ _ _ _ _ _
   | exact sennitref07_Normal.mono _ _
   | exact sennitref10_begins.mono _ _ _
   | exact sennitref10_ends.mono _ _ _
   | exact LeO.none _
   | refine LeO.ite ?_ ?_
   | refine LeO.bind ?_ (fun _ => ?_)
  ·intro y0 y1 y2 y3 y4 y5 y6 y7 y8 y9
   unfold sennitref10_Trim.l3
   repeat' first
   | (with_reducible exact ih0 _ _ _ _ _)
   | (with_reducible exact ih1 _ _ _ _ _ _)
   | (with_reducible exact ih2 _ _ _ _ _ _ _ _ _)
   | (with_reducible exact ih3 _ _ _ _ _ _ _ _)
   | (with_reducible exact ih4 _ _ _ _ _ _ _ _ _ _)
   | (with_reducible exact ih5 _ _ _ _ _ _ _ _)
   | (with_reducible exact ih6 _ _ _ _ _ _)
   | (with_reducible exact sennitref07_Normal.mono _ _)
   | (with_reducible exact sennitref10_begins.mono _ _ _)
   | (with_reducible exact sennitref10_ends.mono _ _ _)
   | (with_reducible exact LeO.refl _)
   | (with_reducible exact LeO.none _)
   | (with_reducible refine LeO.ite ?_ ?_)
   | (with_reducible refine LeO.bind ?_ (fun _ => ?_))
   | exact ih0 _ _ _ _ _
   | exact ih1 _ _ _ _ _ _
   | exact ih2 _ _ _ _ _ _ _ _ _
   | exact ih3 _ _ _ _ _ _ _ _
   | exact ih4 _ _ _ _ _ _ _ _ _ _
   | exact ih5 _ _ _ _ _ _ _ _
   | exact ih6 _ _ _ _ _ _
   | exact sennitref07_Normal.mono _ _
   | exact sennitref10_begins.mono _ _ _
   | exact sennitref10_ends.mono _ _ _
   | exact LeO.none _
   | refine LeO.ite ?_ ?_
   | refine LeO.bind ?_ (fun _ => ?_)
  ·intro y0 y1 y2 y3 y4 y5 y6 y7
   unfold sennitref10_Trim.l2
   repeat' first
   | (with_reducible exact ih0 _ _ _ _ _)
   | (with_reducible exact ih1 _ _ _ _ _ _)
   | (with_reducible exact ih2 _ _ _ _ _ _ _ _ _)
   | (with_reducible exact ih3 _ _ _ _ _ _ _ _)
   | (with_reducible exact ih4 _ _ _ _ _ _ _ _ _ _)
   | (with_reducible exact ih5 _ _ _ _ _ _ _ _)
   | (with_reducible exact ih6 _ _ _ _ _ _)
   | (with_reducible exact sennitref07_Normal.mono _ _)
   | (with_reducible exact sennitref10_begins.mono _ _ _)
   | (with_reducible exact sennitref10_ends.mono _ _ _)
   | (with_reducible exact LeO.refl _)
   | (with_reducible exact LeO.none _)
   | (with_reducible refine LeO.ite ?_ ?_)
   | (with_reducible refine LeO.bind ?_ (fun _ => ?_))
   | exact ih0 _ _ _ _ _
   | exact ih1 _ _ _ _ _ _
   | exact ih2 _ _ _ _ _ _ _ _ _
   | exact ih3 _ _ _ _ _ _ _ _
   | exact ih4 _ _ _ _ _ _ _ _ _ _
   | exact ih5 _ _ _ _ _ _ _ _
   | exact ih6 _ _ _ _ _ _
   | exact sennitref07_Normal.mono _ _
   | exact sennitref10_begins.mono _ _ _
   | exact sennitref10_ends.mono _ _ _
   | exact LeO.none _
   | refine LeO.ite ?_ ?_
   | refine LeO.bind ?_ (fun _ => ?_)
  ·intro y0 y1 y2 y3 y4 y5
   unfold sennitref10_Trim.l0
   repeat' first
   | (with_reducible exact ih0 _ _ _ _ _)
   | (with_reducible exact ih1 _ _ _ _ _ _)
   | (with_reducible exact ih2 _ _ _ _ _ _ _ _ _)
   | (with_reducible exact ih3 _ _ _ _ _ _ _ _)
   | (with_reducible exact ih4 _ _ _ _ _ _ _ _ _ _)
   | (with_reducible exact ih5 _ _ _ _ _ _ _ _)
   | (with_reducible exact ih6 _ _ _ _ _ _)
   | (with_reducible exact sennitref07_Normal.mono _ _)
   | (with_reducible exact sennitref10_begins.mono _ _ _)
   | (with_reducible exact sennitref10_ends.mono _ _ _)
   | (with_reducible exact LeO.refl _)
   | (with_reducible exact LeO.none _)
   | (with_reducible refine LeO.ite ?_ ?_)
   | (with_reducible refine LeO.bind ?_ (fun _ => ?_))
   | exact ih0 _ _ _ _ _
   | exact ih1 _ _ _ _ _ _
   | exact ih2 _ _ _ _ _ _ _ _ _
   | exact ih3 _ _ _ _ _ _ _ _
   | exact ih4 _ _ _ _ _ _ _ _ _ _
   | exact ih5 _ _ _ _ _ _ _ _
   | exact ih6 _ _ _ _ _ _
   | exact sennitref07_Normal.mono _ _
   | exact sennitref10_begins.mono _ _ _
   | exact sennitref10_ends.mono _ _ _
   | exact LeO.none _
   | refine LeO.ite ?_ ?_
   | refine LeO.bind ?_ (fun _ => ?_)
theorem sennitref10_Trim.mono : ∀ a0 a1 a2 a3 k, LeO (sennitref10_Trim.f k a0 a1 a2 a3) (sennitref10_Trim.f (k + 1) a0 a1 a2 a3) := by
 intro a0 a1 a2 a3 k
 obtain ⟨ih0, ih1, ih2, ih3, ih4, ih5, ih6⟩ := sennitref10_Trim.mono_l k
 unfold sennitref10_Trim.f
 repeat' first
   | (with_reducible exact ih0 _ _ _ _ _)
   | (with_reducible exact ih1 _ _ _ _ _ _)
   | (with_reducible exact ih2 _ _ _ _ _ _ _ _ _)
   | (with_reducible exact ih3 _ _ _ _ _ _ _ _)
   | (with_reducible exact ih4 _ _ _ _ _ _ _ _ _ _)
   | (with_reducible exact ih5 _ _ _ _ _ _ _ _)
   | (with_reducible exact ih6 _ _ _ _ _ _)
   | (with_reducible exact sennitref07_Normal.mono _ _)
   | (with_reducible exact sennitref10_begins.mono _ _ _)
   | (with_reducible exact sennitref10_ends.mono _ _ _)
   | (with_reducible exact LeO.refl _)
   | (with_reducible exact LeO.none _)
   | (with_reducible refine LeO.ite ?_ ?_)
   | (with_reducible refine LeO.bind ?_ (fun _ => ?_))
   | exact ih0 _ _ _ _ _
   | exact ih1 _ _ _ _ _ _
   | exact ih2 _ _ _ _ _ _ _ _ _
   | exact ih3 _ _ _ _ _ _ _ _
   | exact ih4 _ _ _ _ _ _ _ _ _ _
   | exact ih5 _ _ _ _ _ _ _ _
   | exact ih6 _ _ _ _ _ _
   | exact sennitref07_Normal.mono _ _
   | exact sennitref10_begins.mono _ _ _
   | exact sennitref10_ends.mono _ _ _
   | exact LeO.none _
   | refine LeO.ite ?_ ?_
   | refine LeO.bind ?_ (fun _ => ?_)
def sennitref10_Trim.T23 : Bool × List (List Nat × List Nat) := (true, [([], []), ([], []), ([], []), ([1, 2], [1, 2]), ([3], [3]), ([], []), ([], []), ([5, 6], [5, 6]), ([7], [7]), ([8], [8]), ([], []), ([9, 10], [9, 10]), ([4, 11], [4, 11]), ([12], [12]), ([0, 13], [0, 13]), ([14, 14, 0, 1, 2, 3, 4, 5, 6, 7, 8, 9, 10, 11, 12, 13, 14], [0, 14])])
def sennitref10_Trim.B23 : List Nat := [0, 0, 0, 6, 14, 0, 0, 96, 224, 480, 0, 2016, 4094, 8190, 16383, 32767]
theorem sennitref10_Trim.tab23 : rtab .any (opsOf Try.f37 23) = sennitref10_Trim.T23 := by kernel_rfl
theorem sennitref10_Trim.bits23 : waitsOk sennitref10_Trim.T23.2 sennitref10_Trim.B23 = true := by kernel_rfl
def sennitref10_Trim.T24 : Bool × List (List Nat × List Nat) := (true, [([], []), ([], []), ([0, 1], [0, 1]), ([2], [2]), ([], []), ([4], [4]), ([], []), ([5, 6], [5, 6]), ([], []), ([], []), ([9], [9]), ([], []), ([10, 11], [10, 11]), ([8, 12], [8, 12]), ([13], [13]), ([3, 7, 14], [3, 7, 14]), ([15], [15]), ([16, 16, 0, 1, 2, 3, 4, 5, 6, 7, 8, 9, 10, 11, 12, 13, 14, 15, 16], [16])])
def sennitref10_Trim.B24 : List Nat := [0, 0, 3, 7, 0, 16, 0, 112, 0, 0, 512, 0, 3584, 7936, 16128, 32767, 65535, 131071]
theorem sennitref10_Trim.tab24 : rtab .any (opsOf Try.f37 24) = sennitref10_Trim.T24 := by kernel_rfl
theorem sennitref10_Trim.bits24 : waitsOk sennitref10_Trim.T24.2 sennitref10_Trim.B24 = true := by kernel_rfl
set_option maxHeartbeats 8000000 in
set_option maxRecDepth 100000 in
theorem sennitref10_Trim.calls (k : Nat) (a0_0 : Bool) (P0_1_ : Nat → Prop) (A0_1 : Option Addr) (c0_1 : Nat) (l0_1 : List ByteArray) (P0_2_ : Nat → Prop) (A0_2 : Option Addr) (c0_2 : Nat) (l0_2 : List ByteArray) (P0_3_ : Nat → Prop) (A0_3 : Option Addr) (c0_3 : Nat) (l0_3 : List (List ByteArray)) (r : List (S27)) (w : World) (hs0_1 : Kd.V Kd.string 9 w w.heap.size (fun k_ => P0_1_ k_) (.slice A0_1 l0_1.length c0_1) l0_1) (hs0_2 : Kd.V Kd.string 9 w w.heap.size (fun k_ => P0_2_ k_) (.slice A0_2 l0_2.length c0_2) l0_2) (hs0_3 : Kd.V (Kd.slice 9 Kd.string) 22 w w.heap.size (fun k_ => P0_3_ k_) (.slice A0_3 l0_3.length c0_3) l0_3) (h : sennitref10_Trim.f k a0_0 l0_1 l0_2 l0_3 = some r) :
  Calls Try.prog 37 #[.agg #[.bool a0_0, .slice A0_1 l0_1.length c0_1, .slice A0_2 l0_2.length c0_2, .slice A0_3 l0_3.length c0_3]] w fun e w' => ∃ v0_ : Value, e = .returned (v0_) ∧ Kd.N k27 27 w' w.heap.size (fun k_ => ((P0_1_ k_ ∨ P0_2_ k_ ∨ P0_3_ k_) ∨ w.heap.size ≤ k_)) v0_ r ∧ Below w.heap.size w w' := by
 have hu27 := Try.underlying27
 have HO0_1 := am (show Kd.V Kd.string 9 w w.heap.size (fun k_ => ((P0_1_ k_ ∨ P0_2_ k_ ∨ P0_3_ k_) ∨ w.heap.size ≤ k_)) (.slice A0_1 l0_1.length c0_1) l0_1 from Kd.V_mono hs0_1 (fun k_ hk => .inl (.inl hk)))
 have HO0_2 := am (show Kd.V Kd.string 9 w w.heap.size (fun k_ => ((P0_1_ k_ ∨ P0_2_ k_ ∨ P0_3_ k_) ∨ w.heap.size ≤ k_)) (.slice A0_2 l0_2.length c0_2) l0_2 from Kd.V_mono hs0_2 (fun k_ hk => .inl (.inr (.inl hk))))
 have HO0_3 := am (show Kd.V (Kd.slice 9 Kd.string) 22 w w.heap.size (fun k_ => ((P0_1_ k_ ∨ P0_2_ k_ ∨ P0_3_ k_) ∨ w.heap.size ≤ k_)) (.slice A0_3 l0_3.length c0_3) l0_3 from Kd.V_mono hs0_3 (fun k_ hk => .inl (.inr (.inr hk))))
 have HB := am (Below.refl w.heap.size w)
 have H : (if a0_0 = true then (sennitref10_Trim.j0 k ((l0_3.length : Int) == 0) a0_0 l0_1 l0_2 l0_3) else (sennitref10_Trim.j0 k true a0_0 l0_1 l0_2 l0_3)) = some r := h
 clear h
 have HC2 := am H
 clear H
 go_enter Try.func37, Try.ntmps37
 go_upto_region 1 with (first | ((with_reducible refine gate_dst (N := 1) rfl ?_); (try (refine gate_guard (by rfl) ?_; dsimp only)); refine box_event ?hg (N := 1) ?hd (cs := #[.bool a0_0, .slice A0_1 l0_1.length c0_1, .slice A0_2 l0_2.length c0_2, .slice A0_3 l0_3.length c0_3]) (t := 27) ?hr ?_; (case hd => rfl); (case hg => rfl); (case hr => first | (go_simp; done) | (go_simp; rfl)); intro gb295 hg w3 hbox hb; have n0_ := am (Kd.V_below (Kd.V_elderB (by (with_reducible repeat (first | apply vA | apply vN | apply vD)); exact HO0_1.out) gb295 (Nat.le_of_eq hg.symm)) hb); have n1_ := am (Kd.V_below (Kd.V_elderB (by (with_reducible repeat (first | apply vA | apply vN | apply vD)); exact HO0_2.out) gb295 (Nat.le_of_eq hg.symm)) hb); have n2_ := am (Kd.V_below (Kd.V_elderB (by (with_reducible repeat (first | apply vA | apply vN | apply vD)); exact HO0_3.out) gb295 (Nat.le_of_eq hg.symm)) hb); have n3_ := am (below_step (by repeat (with_reducible first | exact HB.out | apply bA | apply bN | apply bD)) hb); have n4_ := am (hbox); have n5_ := am ((by rw [hg]; exact (below_size (by repeat (with_reducible first | exact HB.out | apply bA | apply bN | apply bD))) : w.heap.size ≤ gb295)); have n6_ := am ((by rw [hg]; exact (below_size (by repeat (with_reducible first | exact HB.out | apply bA | apply bN | apply bD))) : w.heap.size ≤ gb295)); clear HO0_1; clear HO0_2; clear HO0_3; clear HB; have HO0_1 := n0_; have HO0_2 := n1_; have HO0_3 := n2_; have HB := n3_; have BK295 := n4_; have GW295 := n5_; have GE295 := n6_; clear n0_ n1_ n2_ n3_ n4_ n5_ n6_; clear hb hbox hg))
 (try simp only [Act.put, List.setIfInBounds_toArray, List.set_cons_zero, List.set_cons_succ])
 go_cut [19] (fun v19 wc => ∃ (kq : Nat) (x19_1 : Bool), v19 = .bool x19_1 ∧ Aside0 (sennitref10_Trim.j0 kq x19_1 a0_0 l0_1 l0_2 l0_3 = some r) ∧ Aside0 (kq ≤ k) ∧ Aside0 (Kd.V Kd.string 9 wc w.heap.size (fun k_ => ((P0_1_ k_ ∨ P0_2_ k_ ∨ P0_3_ k_) ∨ w.heap.size ≤ k_) ∧ k_ ≠ gb295) (.slice A0_1 l0_1.length c0_1) l0_1) ∧ Aside0 (Kd.V Kd.string 9 wc w.heap.size (fun k_ => ((P0_1_ k_ ∨ P0_2_ k_ ∨ P0_3_ k_) ∨ w.heap.size ≤ k_) ∧ k_ ≠ gb295) (.slice A0_2 l0_2.length c0_2) l0_2) ∧ Aside0 (Kd.V (Kd.slice 9 Kd.string) 22 wc w.heap.size (fun k_ => ((P0_1_ k_ ∨ P0_2_ k_ ∨ P0_3_ k_) ∨ w.heap.size ≤ k_) ∧ k_ ≠ gb295) (.slice A0_3 l0_3.length c0_3) l0_3) ∧ Aside0 (wc.heap[gb295]? = some (.cells #[.bool a0_0, (.slice A0_1 l0_1.length c0_1), (.slice A0_2 l0_2.length c0_2), (.slice A0_3 l0_3.length c0_3)] 27 (0, 0))) ∧ Aside0 (Below w.heap.size w wc))
 case first =>
  have H := HC2.out
  clear HC2
  by_cases c4 : a0_0 = true
  ·subst c4
   have H1 : (sennitref10_Trim.j0 k ((l0_3.length : Int) == 0) true l0_1 l0_2 l0_3) = some r := by rw [if_pos rfl] at H; exact H
   clear H
   have H := H1
   clear H1
   have H' := am H
   clear H
   have hcz5_0 : w3.cell? ⟨gb295, 0, none⟩ = some (.bool true) := (blk_cell BK295.out 0).trans rfl
   have hcz5_1 : w3.cell? ⟨gb295, 1, none⟩ = some (.slice A0_1 l0_1.length c0_1) := (blk_cell BK295.out 1).trans rfl
   have hcz5_2 : w3.cell? ⟨gb295, 2, none⟩ = some (.slice A0_2 l0_2.length c0_2) := (blk_cell BK295.out 2).trans rfl
   have hcz5_3 : w3.cell? ⟨gb295, 3, none⟩ = some (.slice A0_3 l0_3.length c0_3) := (blk_cell BK295.out 3).trans rfl
   have hfz5_0 := blk_frozen BK295.out 0
   have hfz5_1 := blk_frozen BK295.out 1
   have hfz5_2 := blk_frozen BK295.out 2
   have hfz5_3 := blk_frozen BK295.out 3
   go_wp2
   go_meet
   case rel => exact ⟨_, (((l0_3.length : Int) == 0)), (by first | rfl | (simp; done) | (simp [*]; done)), H', ⟨by first | omega | exact Nat.le_refl _⟩, ⟨by (with_reducible repeat (first | apply vA | apply vN | apply vD)); exact HO0_1.out⟩, ⟨by (with_reducible repeat (first | apply vA | apply vN | apply vD)); exact HO0_2.out⟩, ⟨by (with_reducible repeat (first | apply vA | apply vN | apply vD)); exact HO0_3.out⟩, ⟨by (with_reducible repeat (first | refine blk_drewN ?_ _ | refine blk_drew ?_ | refine blk_alloc ?_ _)); exact BK295.out⟩, ⟨by repeat (first | (with_reducible first | exact HB.out | apply below_alloc | apply pw_below_drewN | apply below_drew1 | refine below_set ?_ GE295.out) | exact HB.out)⟩⟩
  ·replace c4 := Bool.eq_false_iff.mpr c4
   subst c4
   have H1 : (sennitref10_Trim.j0 k true false l0_1 l0_2 l0_3) = some r := by rw [if_neg (show ¬ (false = true) by decide)] at H; exact H
   clear H
   have H := H1
   clear H1
   have H' := am H
   clear H
   have hcz6_0 : w3.cell? ⟨gb295, 0, none⟩ = some (.bool false) := (blk_cell BK295.out 0).trans rfl
   have hcz6_1 : w3.cell? ⟨gb295, 1, none⟩ = some (.slice A0_1 l0_1.length c0_1) := (blk_cell BK295.out 1).trans rfl
   have hcz6_2 : w3.cell? ⟨gb295, 2, none⟩ = some (.slice A0_2 l0_2.length c0_2) := (blk_cell BK295.out 2).trans rfl
   have hcz6_3 : w3.cell? ⟨gb295, 3, none⟩ = some (.slice A0_3 l0_3.length c0_3) := (blk_cell BK295.out 3).trans rfl
   have hfz6_0 := blk_frozen BK295.out 0
   have hfz6_1 := blk_frozen BK295.out 1
   have hfz6_2 := blk_frozen BK295.out 2
   have hfz6_3 := blk_frozen BK295.out 3
   go_wp2
   go_meet
   case rel => exact ⟨_, (true), (by first | rfl | (simp; done) | (simp [*]; done)), H', ⟨by first | omega | exact Nat.le_refl _⟩, ⟨by (with_reducible repeat (first | apply vA | apply vN | apply vD)); exact HO0_1.out⟩, ⟨by (with_reducible repeat (first | apply vA | apply vN | apply vD)); exact HO0_2.out⟩, ⟨by (with_reducible repeat (first | apply vA | apply vN | apply vD)); exact HO0_3.out⟩, ⟨by (with_reducible repeat (first | refine blk_drewN ?_ _ | refine blk_drew ?_ | refine blk_alloc ?_ _)); exact BK295.out⟩, ⟨by repeat (first | (with_reducible first | exact HB.out | apply below_alloc | apply pw_below_drewN | apply below_drew1 | refine below_set ?_ GE295.out) | exact HB.out)⟩⟩
 case rest =>
  clear HC2
  (try clear p2); (try clear c3); (try clear c4); (try clear hcz5_0); (try clear hcz5_1); (try clear hcz5_2); (try clear hcz5_3); (try clear hcz6_0); (try clear hcz6_1); (try clear hcz6_2); (try clear hcz6_3); (try clear hfz5_0); (try clear hfz5_1); (try clear hfz5_2); (try clear hfz5_3); (try clear hfz6_0); (try clear hfz6_1); (try clear hfz6_2); (try clear hfz6_3)
  obtain ⟨kq, x19_1, rfl, HA, HJ1, HO_296001, HO_296002, HO_296003, BK295, HB⟩ := hcut
  cases kq with
  | zero => exact absurd HA.out (by simp [sennitref10_Trim.j0])
  | succ kj1 =>
   have H := HA.out
   clear HA
   simp only [sennitref10_Trim.j0] at H
   by_cases c7 : x19_1 = true
   ·subst c7
    have H1 : ((sennitref07_Normal.f kj1 (([(⟨a0_0, l0_1, l0_2, l0_3⟩ : S27)] : List (S27)))).bind fun t299 => (some t299)) = some r := by rw [if_pos rfl] at H; exact H
    clear H
    have H := H1
    clear H1
    obtain ⟨y296, hy296⟩ : ∃ y_ : List (S27), y_ = (([(⟨a0_0, l0_1, l0_2, l0_3⟩ : S27)] : List (S27))) := ⟨_, rfl⟩
    replace H : ((sennitref07_Normal.f kj1 y296).bind fun t299 => (some t299)) = some r := by first | (rw [hy296]; with_reducible exact H) | (have H2_ := (Option.bind_some _ _).symm.trans H; rw [hy296]; with_reducible exact H2_) | (have H2_ := (Option.bind_some _ _).symm.trans H; with_reducible exact H2_) | with_reducible exact H | (rw [hy296]; exact H) | exact H
    have Ny296 := am hy296
    clear hy296
    replace H := Option.bind_eq_some_iff.mp H
    obtain ⟨t299, A80, H⟩ := H
    replace H : (some t299) = some r := H
    have A8 := am A80
    clear A80
    obtain rfl := Option.some.inj H
    have hcz9_0 : wc.cell? ⟨gb295, 0, none⟩ = some (.bool a0_0) := (blk_cell BK295.out 0).trans rfl
    have hcz9_1 : wc.cell? ⟨gb295, 1, none⟩ = some (.slice A0_1 l0_1.length c0_1) := (blk_cell BK295.out 1).trans rfl
    have hcz9_2 : wc.cell? ⟨gb295, 2, none⟩ = some (.slice A0_2 l0_2.length c0_2) := (blk_cell BK295.out 2).trans rfl
    have hcz9_3 : wc.cell? ⟨gb295, 3, none⟩ = some (.slice A0_3 l0_3.length c0_3) := (blk_cell BK295.out 3).trans rfl
    have hfz9_0 := blk_frozen BK295.out 0
    have hfz9_1 := blk_frozen BK295.out 1
    have hfz9_2 := blk_frozen BK295.out 2
    have hfz9_3 := blk_frozen BK295.out 3
    go_wp2_with (first | ((with_reducible refine gate_dst (N := 21) rfl ?_); (try (refine gate_guard (by rfl) ?_; dsimp only)); refine Kd.N_lit k27 _ 27 ?hg (N' := 21) ?hd (xs := ([(⟨a0_0, l0_1, l0_2, l0_3⟩ : S27)] : List (S27))) (inner := [.bool a0_0, .slice A0_1 l0_1.length c0_1, .slice A0_2 l0_2.length c0_2, .slice A0_3 l0_3.length c0_3]) (ok := (fun k_ => ((P0_1_ k_ ∨ P0_2_ k_ ∨ P0_3_ k_) ∨ w.heap.size ≤ k_) ∧ k_ ≠ gb295)) (okp := (fun k_ => ((P0_1_ k_ ∨ P0_2_ k_ ∨ P0_3_ k_) ∨ w.heap.size ≤ k_) ∧ k_ ≠ gb295)) ?hr ?hp (fun _ hk => hk) ((show ∀ k_, wc.heap.size ≤ k_ → (fun k_ => ((P0_1_ k_ ∨ P0_2_ k_ ∨ P0_3_ k_) ∨ w.heap.size ≤ k_) ∧ k_ ≠ gb295) k_ from fun k_ hk => ⟨(.inr (Nat.le_trans (below_size (by repeat (first | (with_reducible first | exact HB.out | apply below_alloc | apply pw_below_drewN | apply below_drew1 | refine below_set ?_ GE295.out) | exact HB.out))) hk)), Kd.freshB (g := gb295) (o := .cells #[.bool a0_0, .slice A0_1 l0_1.length c0_1, .slice A0_2 l0_2.length c0_2, .slice A0_3 l0_3.length c0_3] 27 (0, 0)) (by (with_reducible repeat (first | refine blk_drewN ?_ _ | refine blk_drew ?_ | refine blk_alloc ?_ _)); exact BK295.out) k_ hk⟩) _ (Nat.le_refl _)) (Below.refl _ _) (Nat.le_refl _) (by simp) ?_; (case hd => rfl); (case hg => rfl); (case hr => first | (go_simp; done) | (go_simp; rfl)); (case hp => exact (Reps.c4 (show Kd.FK k27 _ _ (⟨a0_0, l0_1, l0_2, l0_3⟩ : S27) [.bool a0_0, .slice A0_1 l0_1.length c0_1, .slice A0_2 l0_2.length c0_2, .slice A0_3 l0_3.length c0_3] from (k27_mkF _ _ (⟨a0_0, l0_1, l0_2, l0_3⟩ : S27) (Kd.V_reads' (Kd.V_mono (ok' := (fun k_ => ((P0_1_ k_ ∨ P0_2_ k_ ∨ P0_3_ k_) ∨ w.heap.size ≤ k_) ∧ k_ ≠ gb295)) (HO_296001.out) (fun k_ hk => ⟨hk.1, hk.2⟩))).2.1 (Kd.V_F (Kd.V_mono (ok' := (fun k_ => ((P0_1_ k_ ∨ P0_2_ k_ ∨ P0_3_ k_) ∨ w.heap.size ≤ k_) ∧ k_ ≠ gb295)) (HO_296001.out) (fun k_ hk => ⟨hk.1, hk.2⟩))) (Kd.V_reads' (Kd.V_mono (ok' := (fun k_ => ((P0_1_ k_ ∨ P0_2_ k_ ∨ P0_3_ k_) ∨ w.heap.size ≤ k_) ∧ k_ ≠ gb295)) (HO_296002.out) (fun k_ hk => ⟨hk.1, hk.2⟩))).2.1 (Kd.V_F (Kd.V_mono (ok' := (fun k_ => ((P0_1_ k_ ∨ P0_2_ k_ ∨ P0_3_ k_) ∨ w.heap.size ≤ k_) ∧ k_ ≠ gb295)) (HO_296002.out) (fun k_ hk => ⟨hk.1, hk.2⟩))) (Kd.V_reads' (Kd.V_mono (ok' := (fun k_ => ((P0_1_ k_ ∨ P0_2_ k_ ∨ P0_3_ k_) ∨ w.heap.size ≤ k_) ∧ k_ ≠ gb295)) (HO_296003.out) (fun k_ hk => ⟨hk.1, hk.2⟩))).2.1 (Kd.V_F (Kd.V_mono (ok' := (fun k_ => ((P0_1_ k_ ∨ P0_2_ k_ ∨ P0_3_ k_) ∨ w.heap.size ≤ k_) ∧ k_ ≠ gb295)) (HO_296003.out) (fun k_ hk => ⟨hk.1, hk.2⟩))))) (Reps.none _ _))); intro v297 w10 ho11 hb hg_ hnew_; clear hg_ hnew_; (first | rw [← Ny296.out] at ho11 | (simp only [Int.reduceToNat] at ho11; rw [← Ny296.out] at ho11)); have n0_ := am (Kd.V_elder' (by (with_reducible repeat (first | apply vA | apply vN | apply vD)); exact HO_296001.out) (Kd.N_base ho11) hb); have n1_ := am (Kd.V_elder' (by (with_reducible repeat (first | apply vA | apply vN | apply vD)); exact HO_296002.out) (Kd.N_base ho11) hb); have n2_ := am (Kd.V_elder' (by (with_reducible repeat (first | apply vA | apply vN | apply vD)); exact HO_296003.out) (Kd.N_base ho11) hb); have n3_ := am (Kd.N_lower ho11 (below_size (by repeat (first | (with_reducible first | exact HB.out | apply below_alloc | apply pw_below_drewN | apply below_drew1 | refine below_set ?_ GE295.out) | exact HB.out)))); have n4_ := am (blk_below (g := gb295) (o := .cells #[.bool a0_0, .slice A0_1 l0_1.length c0_1, .slice A0_2 l0_2.length c0_2, .slice A0_3 l0_3.length c0_3] 27 (0, 0)) (by (with_reducible repeat (first | refine blk_drewN ?_ _ | refine blk_drew ?_ | refine blk_alloc ?_ _)); exact BK295.out) hb); have n5_ := am (below_step (by repeat (first | (with_reducible first | exact HB.out | apply below_alloc | apply pw_below_drewN | apply below_drew1 | refine below_set ?_ GE295.out) | exact HB.out)) hb); clear HO_296001; clear HO_296002; clear HO_296003; clear BK295; clear HB; have HO_296001 := n0_; have HO_296002 := n1_; have HO_296003 := n2_; have HO298 := n3_; have BK295 := n4_; have HB := n5_; clear n0_ n1_ n2_ n3_ n4_ n5_; clear hb ho11; obtain ⟨Ao12, co12, eo12⟩ := Kd.N_slice HO298.out; subst eo12) | ((with_reducible refine gate_callee (f := 42) rfl ?_); refine goesL_ (some 22) rfl rfl Try.func42 (by kernel_rfl) rfl #[.slice Ao12 y296.length co12] rfl (by (try simp only [List.map_toArray, List.map_cons, List.map_nil]); first | done | rfl | (simp only [List.length_drop, List.length_take]; rfl)) ?_; (with_reducible refine (sennitref07_Normal.calls kj1 (fun k_ => (((P0_1_ k_ ∨ P0_2_ k_ ∨ P0_3_ k_) ∨ w.heap.size ≤ k_) ∧ k_ ≠ gb295)) _ _ y296 t299 _ ?side1 A8.out).mono ?_); (case side1 => exact Kd.N_V (HO298.out)); rintro e w13 ⟨v300, rfl, ho0, hb⟩; refine ⟨_, rfl, ?_⟩; have n0_ := am (Kd.V_elder' (by (with_reducible repeat (first | apply vA | apply vN | apply vD)); exact HO_296001.out) (Kd.N_base ho0) hb); have n1_ := am (Kd.V_elder' (by (with_reducible repeat (first | apply vA | apply vN | apply vD)); exact HO_296002.out) (Kd.N_base ho0) hb); have n2_ := am (Kd.V_elder' (by (with_reducible repeat (first | apply vA | apply vN | apply vD)); exact HO_296003.out) (Kd.N_base ho0) hb); have n3_ := am (Kd.N_elder' (by (with_reducible repeat (first | apply nA | apply nN | apply nD)); exact HO298.out) (Kd.N_base ho0) hb); have n4_ := am (Kd.N_lower (Kd.N_mono (ok' := fun k_ => ((P0_1_ k_ ∨ P0_2_ k_ ∨ P0_3_ k_) ∨ w.heap.size ≤ k_) ∧ k_ ≠ gb295) ho0 (fun k_ hk_ => ⟨Or.elim hk_ (fun hs_ => hs_.1) (fun hn_ => (.inr (Nat.le_trans (below_size (by repeat (first | (with_reducible first | exact HB.out | apply below_alloc | apply pw_below_drewN | apply below_drew1 | refine below_set ?_ GE295.out) | exact HB.out))) hn_))), Or.elim hk_ (fun hs_ => hs_.2) (fun hn_ => (Kd.freshB (g := gb295) (o := .cells #[.bool a0_0, .slice A0_1 l0_1.length c0_1, .slice A0_2 l0_2.length c0_2, .slice A0_3 l0_3.length c0_3] 27 (0, 0)) (by (with_reducible repeat (first | refine blk_drewN ?_ _ | refine blk_drew ?_ | refine blk_alloc ?_ _)); exact BK295.out) k_ hn_))⟩)) (below_size (by repeat (first | (with_reducible first | exact HB.out | apply below_alloc | apply pw_below_drewN | apply below_drew1 | refine below_set ?_ GE295.out) | exact HB.out)))); have n5_ := am (blk_below (g := gb295) (o := .cells #[.bool a0_0, .slice A0_1 l0_1.length c0_1, .slice A0_2 l0_2.length c0_2, .slice A0_3 l0_3.length c0_3] 27 (0, 0)) (by (with_reducible repeat (first | refine blk_drewN ?_ _ | refine blk_drew ?_ | refine blk_alloc ?_ _)); exact BK295.out) hb); have n6_ := am (below_step (by repeat (first | (with_reducible first | exact HB.out | apply below_alloc | apply pw_below_drewN | apply below_drew1 | refine below_set ?_ GE295.out) | exact HB.out)) hb); clear HO_296001; clear HO_296002; clear HO_296003; clear HO298; clear BK295; clear HB; have HO_296001 := n0_; have HO_296002 := n1_; have HO_296003 := n2_; have HO298 := n3_; have HO301 := n4_; have BK295 := n5_; have HB := n6_; clear n0_ n1_ n2_ n3_ n4_ n5_ n6_; (try clear hb); (try clear hb2); (try clear hk); (try clear hi); (try clear ho0)))
    go_ret
    exact ⟨_, by first | rfl | (simp [errW_none, errW_some] <;> rfl) | (simp [*, errW_none, errW_some] <;> rfl), by (with_reducible repeat (first | apply nA | apply nN | apply nD)); exact Kd.N_mono HO301.out (fun _ hk => hk.1), by repeat (first | (with_reducible first | exact HB.out | apply below_alloc | apply pw_below_drewN | apply below_drew1 | refine below_set ?_ GE295.out) | exact HB.out)⟩
   ·replace c7 := Bool.eq_false_iff.mpr c7
    subst c7
    have H1 : (if 0 < (l0_3.length : Int) then (if 0 ≤ ((rd_L1 l0_3 0).length : Int) then (sennitref10_Trim.l0 kj1 ((rd_L1 l0_3 0).drop 0) 0 a0_0 l0_1 l0_2 l0_3) else (none)) else (none)) = some r := by rw [if_neg (show ¬ (false = true) by decide)] at H; exact H
    clear H
    have H := H1
    clear H1
    by_cases c14 : 0 < (l0_3.length : Int)
    ·rw [if_pos c14] at H
     have c14b0 : decide (0 < (l0_3.length : Int)) = true := decide_eq_true c14
     have c14b1 : decide (0 < l0_3.length) = true := decide_eq_true (by omega)
     clear c14
     by_cases c15 : 0 ≤ ((rd_L1 l0_3 0).length : Int)
     ·rw [if_pos c15] at H
      have c15b0 := eq_true c15
      have c15b1 : decide (0 ≤ ((rd_L1 l0_3 0).length : Int)) = true := decide_eq_true c15
      clear c15
      obtain ⟨y303, hy303⟩ : ∃ y_ : List ByteArray, y_ = ((rd_L1 l0_3 0).drop 0) := ⟨_, rfl⟩
      replace H : (sennitref10_Trim.l0 kj1 y303 0 a0_0 l0_1 l0_2 l0_3) = some r := by first | (rw [hy303]; with_reducible exact H) | (have H2_ := (Option.bind_some _ _).symm.trans H; rw [hy303]; with_reducible exact H2_) | (have H2_ := (Option.bind_some _ _).symm.trans H; with_reducible exact H2_) | with_reducible exact H | (rw [hy303]; exact H) | exact H
      have Ny303 := am hy303
      clear hy303
      have HC16 := am H
      clear H
      have hcz17_0 : wc.cell? ⟨gb295, 0, none⟩ = some (.bool a0_0) := (blk_cell BK295.out 0).trans rfl
      have hcz17_1 : wc.cell? ⟨gb295, 1, none⟩ = some (.slice A0_1 l0_1.length c0_1) := (blk_cell BK295.out 1).trans rfl
      have hcz17_2 : wc.cell? ⟨gb295, 2, none⟩ = some (.slice A0_2 l0_2.length c0_2) := (blk_cell BK295.out 2).trans rfl
      have hcz17_3 : wc.cell? ⟨gb295, 3, none⟩ = some (.slice A0_3 l0_3.length c0_3) := (blk_cell BK295.out 3).trans rfl
      have hfz17_0 := blk_frozen BK295.out 0
      have hfz17_1 := blk_frozen BK295.out 1
      have hfz17_2 := blk_frozen BK295.out 2
      have hfz17_3 := blk_frozen BK295.out 3
      have p302 : 0 ≤ (0 : Int) := (by omega)
      have q302 : 0 < (l0_3.length : Int) := of_decide_eq_true (by first | (with_reducible assumption) | assumption)
      obtain ⟨ad302, A302_0, c302_0, e302, hx302_0, hl302_0, hi302_0⟩ := at_L1 (Kd.V_reads' HO_296003.out).2.2 0 p302 q302
      cases e302
      obtain ⟨ce302, hce302, hMe302, hcc302⟩ := Kd.V_get HO_296003.out [] 0 p302 (by first | exact q302 | exact of_decide_eq_true (by first | (with_reducible assumption) | assumption) | (have e_ := (Kd.V_reads' HO_296003.out).1; omega))
      obtain ⟨ua302_0, uc302_0, rfl, ul302_0, ge302_0⟩ := Kd.FK_slice_open hMe302
      have hv302_0 := hcc302 0 _ rfl
      rw [Nat.add_zero, show ((Kd.slice 9 Kd.string)).sz = 1 from rfl, Nat.mul_one] at hv302_0
      replace hv302_0 := Option.some.inj (hv302_0.symm.trans hx302_0)
      injection hv302_0 with hva_ hvn_ hvc_
      rw [hva_] at ge302_0
      rw [hvc_] at ul302_0
      have HL302_0 := am (show Kd.V Kd.string 9 _ w.heap.size _ _ (rd_L1 l0_3 0) from Kd.V_mk ul302_0 ge302_0)
      clear hva_ hvn_ hvc_ ge302_0 ul302_0
      clear hcc302 hce302
      have qi302 : (0 < l0_3.length) = True := eq_true (by omega)
      (try rw [show ((0 : Int)).toNat = 0 from rfl] at hx302_0)
      (try rw [Addr.add_zero'] at hx302_0)
      have HR302_0 := am hi302_0
      have HC302_0 := am hl302_0
      clear hi302_0 hl302_0
      replace p302 := eq_true p302
      replace q302 := eq_true q302
      have q18 : (0 : Int) ≤ (((rd_L1 l0_3 0).length : Int) : Int) := of_decide_eq_true (by first | (with_reducible assumption) | assumption)
      obtain ⟨A18, hA18⟩ : ∃ A1x_, A1x_ = A302_0 := ⟨_, rfl⟩
      obtain ⟨c18, hc18⟩ : ∃ c1x_, c1x_ = c302_0 := ⟨_, rfl⟩
      have hy18 : rd_L1 l0_3 0 = y303 := by rw [Ny303.out]; rfl
      have hv18 : Value.slice A302_0 (rd_L1 l0_3 0).length c302_0 = .slice A18 y303.length c18 := by rw [hA18, hc18, hy18]
      have HO307 := HL302_0
      rw [hv18, hy18] at HO307
      have HC307 : Aside0 (y303.length ≤ c18) := ⟨by rw [hc18, ← hy18]; exact HC302_0.out⟩
      clear hA18 hc18 hy18
      replace q18 := eq_true q18
      go_upto_block 0 with (fail)
      try rw [hv18]
      clear hv18
      go_cut [4] (fun v4 wc => ∃ (kq : Nat) (x4_15 : Int), v4 = .int .i64 x4_15 ∧ Aside0 (sennitref10_Trim.j2 kq y303 x4_15 a0_0 l0_1 l0_2 l0_3 = some r) ∧ Aside0 (kq ≤ kj1) ∧ Aside0 (Kd.V Kd.string 9 wc w.heap.size (fun k_ => ((P0_1_ k_ ∨ P0_2_ k_ ∨ P0_3_ k_) ∨ w.heap.size ≤ k_) ∧ k_ ≠ gb295) (.slice A18 y303.length c18) y303) ∧ Aside0 (Kd.V Kd.string 9 wc w.heap.size (fun k_ => ((P0_1_ k_ ∨ P0_2_ k_ ∨ P0_3_ k_) ∨ w.heap.size ≤ k_) ∧ k_ ≠ gb295) (.slice A0_1 l0_1.length c0_1) l0_1) ∧ Aside0 (Kd.V Kd.string 9 wc w.heap.size (fun k_ => ((P0_1_ k_ ∨ P0_2_ k_ ∨ P0_3_ k_) ∨ w.heap.size ≤ k_) ∧ k_ ≠ gb295) (.slice A0_2 l0_2.length c0_2) l0_2) ∧ Aside0 (Kd.V (Kd.slice 9 Kd.string) 22 wc w.heap.size (fun k_ => ((P0_1_ k_ ∨ P0_2_ k_ ∨ P0_3_ k_) ∨ w.heap.size ≤ k_) ∧ k_ ≠ gb295) (.slice (some ad302) l0_3.length c0_3) l0_3) ∧ Aside0 (wc.heap[gb295]? = some (.cells #[.bool a0_0, (.slice A0_1 l0_1.length c0_1), (.slice A0_2 l0_2.length c0_2), (.slice (some ad302) l0_3.length c0_3)] 27 (0, 0))) ∧ Aside0 (Kd.C Kd.string wc A302_0 (rd_L1 l0_3 0).length (rd_L1 l0_3 0)) ∧ Aside0 (Below w.heap.size w wc))
      case first =>
       have H := HC16.out
       clear HC16
       have H' := am H
       clear H
       go_wp2
       go_loopg [4] kj1 (fun kq v4 w' => ∃ (x4_2 : Int), v4 = .int .i64 x4_2 ∧ Aside0 (sennitref10_Trim.l0 kq y303 x4_2 a0_0 l0_1 l0_2 l0_3 = some r) ∧ Aside0 (kq ≤ kj1) ∧ Aside0 (Kd.V Kd.string 9 w' w.heap.size (fun k_ => ((P0_1_ k_ ∨ P0_2_ k_ ∨ P0_3_ k_) ∨ w.heap.size ≤ k_) ∧ k_ ≠ gb295) (.slice A18 y303.length c18) y303) ∧ Aside0 (Kd.V Kd.string 9 w' w.heap.size (fun k_ => ((P0_1_ k_ ∨ P0_2_ k_ ∨ P0_3_ k_) ∨ w.heap.size ≤ k_) ∧ k_ ≠ gb295) (.slice A0_1 l0_1.length c0_1) l0_1) ∧ Aside0 (Kd.V Kd.string 9 w' w.heap.size (fun k_ => ((P0_1_ k_ ∨ P0_2_ k_ ∨ P0_3_ k_) ∨ w.heap.size ≤ k_) ∧ k_ ≠ gb295) (.slice A0_2 l0_2.length c0_2) l0_2) ∧ Aside0 (Kd.V (Kd.slice 9 Kd.string) 22 w' w.heap.size (fun k_ => ((P0_1_ k_ ∨ P0_2_ k_ ∨ P0_3_ k_) ∨ w.heap.size ≤ k_) ∧ k_ ≠ gb295) (.slice (some ad302) l0_3.length c0_3) l0_3) ∧ Aside0 (w'.heap[gb295]? = some (.cells #[.bool a0_0, (.slice A0_1 l0_1.length c0_1), (.slice A0_2 l0_2.length c0_2), (.slice (some ad302) l0_3.length c0_3)] 27 (0, 0))) ∧ Aside0 (Kd.C Kd.string w' A302_0 (rd_L1 l0_3 0).length (rd_L1 l0_3 0)) ∧ Aside0 (Below w.heap.size w w'))
       case atStart => exact ⟨(0), (by first | rfl | (simp; done) | (simp [*]; done)), H', ⟨Nat.le_refl _⟩, ⟨by (with_reducible repeat (first | apply vA | apply vN | apply vD)); exact HO307.out⟩, ⟨by (with_reducible repeat (first | apply vA | apply vN | apply vD)); exact HO_296001.out⟩, ⟨by (with_reducible repeat (first | apply vA | apply vN | apply vD)); exact HO_296002.out⟩, ⟨by (with_reducible repeat (first | apply vA | apply vN | apply vD)); exact HO_296003.out⟩, ⟨by (with_reducible repeat (first | refine blk_drewN ?_ _ | refine blk_drew ?_ | refine blk_alloc ?_ _)); exact BK295.out⟩, ⟨by repeat (first | (with_reducible exact HR302_0.out) | (with_reducible refine Kd.C_alloc ?_ _) | (with_reducible refine Kd.C_drewN ?_ _) | (with_reducible refine Kd.C_drew ?_) | exact HR302_0.out)⟩, ⟨by repeat (first | (with_reducible first | exact HB.out | apply below_alloc | apply pw_below_drewN | apply below_drew1 | refine below_set ?_ GE295.out) | exact HB.out)⟩⟩
       case round =>
        clear H'
        (try clear c1); (try clear q1); (try clear p2); (try clear c3); (try clear p3); (try clear q3); (try clear hx3); (try clear qi3); (try clear c4); (try clear c7); (try clear c14); (try clear c14b0); (try clear c14b1); (try clear c15); (try clear c15b0); (try clear c15b1); (try clear c18); (try clear q18); (try clear hcz17_0); (try clear hcz17_1); (try clear hcz17_2); (try clear hcz17_3); (try clear hcz5_0); (try clear hcz5_1); (try clear hcz5_2); (try clear hcz5_3); (try clear hcz6_0); (try clear hcz6_1); (try clear hcz6_2); (try clear hcz6_3); (try clear hcz9_0); (try clear hcz9_1); (try clear hcz9_2); (try clear hcz9_3); (try clear hfz17_0); (try clear hfz17_1); (try clear hfz17_2); (try clear hfz17_3); (try clear hfz5_0); (try clear hfz5_1); (try clear hfz5_2); (try clear hfz5_3); (try clear hfz6_0); (try clear hfz6_1); (try clear hfz6_2); (try clear hfz6_3); (try clear hfz9_0); (try clear hfz9_1); (try clear hfz9_2); (try clear hfz9_3); (try clear hx302_0); (try clear p2); (try clear p302); (try clear q18); (try clear q302)
        obtain ⟨x4_2, rfl, HA, HK2, HO_3, HO_296001, HO_296002, HO_296003, BK295, HR302_0, HB⟩ := hrel
        cases gk with
        | zero => exact absurd HA.out (by simp [sennitref10_Trim.l0])
        | succ k2 =>
         have H := HA.out
         clear HA
         simp only [sennitref10_Trim.l0] at H
         by_cases c19 : x4_2 < (y303.length : Int)
         ·rw [if_pos c19] at H
          have c19b0 : decide (x4_2 < (y303.length : Int)) = true := decide_eq_true c19
          clear c19
          (first | rw [c19b0] | (simp only [i64_w, i32_w]; rw [c19b0]) | skip)
          replace H := Option.bind_eq_some_iff.mp H
          obtain ⟨t308, A200, H⟩ := H
          replace H : (if t308 = true then (sennitref10_Trim.l0 k2 y303 (wrap64 (x4_2 + 1)) a0_0 l0_1 l0_2 l0_3) else (sennitref10_Trim.j2 k2 y303 x4_2 a0_0 l0_1 l0_2 l0_3)) = some r := H
          have A20 := am A200
          clear A200
          by_cases c21 : t308 = true
          ·subst c21
           have H1 : (sennitref10_Trim.l0 k2 y303 (wrap64 (x4_2 + 1)) a0_0 l0_1 l0_2 l0_3) = some r := by rw [if_pos rfl] at H; exact H
           clear H
           have H := H1
           clear H1
           have H' := am H
           clear H
           have hcz22_0 : wr.cell? ⟨gb295, 0, none⟩ = some (.bool a0_0) := (blk_cell BK295.out 0).trans rfl
           have hcz22_1 : wr.cell? ⟨gb295, 1, none⟩ = some (.slice A0_1 l0_1.length c0_1) := (blk_cell BK295.out 1).trans rfl
           have hcz22_2 : wr.cell? ⟨gb295, 2, none⟩ = some (.slice A0_2 l0_2.length c0_2) := (blk_cell BK295.out 2).trans rfl
           have hcz22_3 : wr.cell? ⟨gb295, 3, none⟩ = some (.slice (some ad302) l0_3.length c0_3) := (blk_cell BK295.out 3).trans rfl
           have hfz22_0 := blk_frozen BK295.out 0
           have hfz22_1 := blk_frozen BK295.out 1
           have hfz22_2 := blk_frozen BK295.out 2
           have hfz22_3 := blk_frozen BK295.out 3
           go_wp2_with (first | (go_at_call 62; (with_reducible refine (sennitref10_begins.calls k2 _ _ l0_3 (wrap64 (x4_2 + 1)) true _ ?side1 ?side2 A20.out).mono ?_); (case side1 => repeat (first | exact (Kd.V_reads' HO_296003.out).2.2 | (with_reducible refine Kd.C_alloc ?_ _) | (with_reducible refine Kd.C_drewN ?_ _) | (with_reducible refine Kd.C_drew ?_))); (case side2 => exact (Kd.V_reads' HO_296003.out).2.1); rintro e w' ⟨rfl, ⟨nd, rfl⟩⟩))
           go_roundg k2
           case measure => have := HJ1.out; have := HK2.out; omega
           case rel => exact ⟨(wrap64 (x4_2 + 1)), (by first | rfl | (simp; done) | (simp [*]; done)), H', ⟨by have := HJ1.out; have := HK2.out; omega⟩, ⟨by (with_reducible repeat (first | apply vA | apply vN | apply vD)); exact HO_3.out⟩, ⟨by (with_reducible repeat (first | apply vA | apply vN | apply vD)); exact HO_296001.out⟩, ⟨by (with_reducible repeat (first | apply vA | apply vN | apply vD)); exact HO_296002.out⟩, ⟨by (with_reducible repeat (first | apply vA | apply vN | apply vD)); exact HO_296003.out⟩, ⟨by (with_reducible repeat (first | refine blk_drewN ?_ _ | refine blk_drew ?_ | refine blk_alloc ?_ _)); exact BK295.out⟩, ⟨by repeat (first | (with_reducible exact HR302_0.out) | (with_reducible refine Kd.C_alloc ?_ _) | (with_reducible refine Kd.C_drewN ?_ _) | (with_reducible refine Kd.C_drew ?_) | exact HR302_0.out)⟩, ⟨by repeat (first | (with_reducible first | exact HB.out | apply below_alloc | apply pw_below_drewN | apply below_drew1 | refine below_set ?_ GE295.out) | exact HB.out)⟩⟩
          ·replace c21 := Bool.eq_false_iff.mpr c21
           subst c21
           have H1 : (sennitref10_Trim.j2 k2 y303 x4_2 a0_0 l0_1 l0_2 l0_3) = some r := by rw [if_neg (show ¬ (false = true) by decide)] at H; exact H
           clear H
           have H := H1
           clear H1
           have H' := am H
           clear H
           have hcz23_0 : wr.cell? ⟨gb295, 0, none⟩ = some (.bool a0_0) := (blk_cell BK295.out 0).trans rfl
           have hcz23_1 : wr.cell? ⟨gb295, 1, none⟩ = some (.slice A0_1 l0_1.length c0_1) := (blk_cell BK295.out 1).trans rfl
           have hcz23_2 : wr.cell? ⟨gb295, 2, none⟩ = some (.slice A0_2 l0_2.length c0_2) := (blk_cell BK295.out 2).trans rfl
           have hcz23_3 : wr.cell? ⟨gb295, 3, none⟩ = some (.slice (some ad302) l0_3.length c0_3) := (blk_cell BK295.out 3).trans rfl
           have hfz23_0 := blk_frozen BK295.out 0
           have hfz23_1 := blk_frozen BK295.out 1
           have hfz23_2 := blk_frozen BK295.out 2
           have hfz23_3 := blk_frozen BK295.out 3
           go_wp2_with (first | (go_at_call 62; (with_reducible refine (sennitref10_begins.calls k2 _ _ l0_3 (wrap64 (x4_2 + 1)) false _ ?side1 ?side2 A20.out).mono ?_); (case side1 => repeat (first | exact (Kd.V_reads' HO_296003.out).2.2 | (with_reducible refine Kd.C_alloc ?_ _) | (with_reducible refine Kd.C_drewN ?_ _) | (with_reducible refine Kd.C_drew ?_))); (case side2 => exact (Kd.V_reads' HO_296003.out).2.1); rintro e w' ⟨rfl, ⟨nd, rfl⟩⟩))
           go_meet
           case rel => exact ⟨_, (x4_2), (by first | rfl | (simp; done) | (simp [*]; done)), H', ⟨by have := HJ1.out; have := HK2.out; first | omega | exact Nat.le_refl _⟩, ⟨by (with_reducible repeat (first | apply vA | apply vN | apply vD)); exact HO_3.out⟩, ⟨by (with_reducible repeat (first | apply vA | apply vN | apply vD)); exact HO_296001.out⟩, ⟨by (with_reducible repeat (first | apply vA | apply vN | apply vD)); exact HO_296002.out⟩, ⟨by (with_reducible repeat (first | apply vA | apply vN | apply vD)); exact HO_296003.out⟩, ⟨by (with_reducible repeat (first | refine blk_drewN ?_ _ | refine blk_drew ?_ | refine blk_alloc ?_ _)); exact BK295.out⟩, ⟨by repeat (first | (with_reducible exact HR302_0.out) | (with_reducible refine Kd.C_alloc ?_ _) | (with_reducible refine Kd.C_drewN ?_ _) | (with_reducible refine Kd.C_drew ?_) | exact HR302_0.out)⟩, ⟨by repeat (first | (with_reducible first | exact HB.out | apply below_alloc | apply pw_below_drewN | apply below_drew1 | refine below_set ?_ GE295.out) | exact HB.out)⟩⟩
         ·rw [if_neg c19] at H
          have c19b0 : decide (x4_2 < (y303.length : Int)) = false := decide_eq_false c19
          clear c19
          (first | rw [c19b0] | (simp only [i64_w, i32_w]; rw [c19b0]) | skip)
          have H' := am H
          clear H
          go_wp2
          go_meet
          case rel => exact ⟨_, (x4_2), (by first | rfl | (simp; done) | (simp [*]; done)), H', ⟨by have := HJ1.out; have := HK2.out; first | omega | exact Nat.le_refl _⟩, ⟨by (with_reducible repeat (first | apply vA | apply vN | apply vD)); exact HO_3.out⟩, ⟨by (with_reducible repeat (first | apply vA | apply vN | apply vD)); exact HO_296001.out⟩, ⟨by (with_reducible repeat (first | apply vA | apply vN | apply vD)); exact HO_296002.out⟩, ⟨by (with_reducible repeat (first | apply vA | apply vN | apply vD)); exact HO_296003.out⟩, ⟨by (with_reducible repeat (first | refine blk_drewN ?_ _ | refine blk_drew ?_ | refine blk_alloc ?_ _)); exact BK295.out⟩, ⟨by repeat (first | (with_reducible exact HR302_0.out) | (with_reducible refine Kd.C_alloc ?_ _) | (with_reducible refine Kd.C_drewN ?_ _) | (with_reducible refine Kd.C_drew ?_) | exact HR302_0.out)⟩, ⟨by repeat (first | (with_reducible first | exact HB.out | apply below_alloc | apply pw_below_drewN | apply below_drew1 | refine below_set ?_ GE295.out) | exact HB.out)⟩⟩
      case rest =>
       clear HC16
       (try clear c1); (try clear q1); (try clear c2); (try clear p2); (try clear c3); (try clear p3); (try clear q3); (try clear hx3); (try clear qi3); (try clear c4); (try clear p6); (try clear c7); (try clear c14); (try clear c14b0); (try clear c14b1); (try clear c15); (try clear c15b0); (try clear c15b1); (try clear c18); (try clear q18); (try clear c19); (try clear c19b0); (try clear c21); (try clear hcz17_0); (try clear hcz17_1); (try clear hcz17_2); (try clear hcz17_3); (try clear hcz22_0); (try clear hcz22_1); (try clear hcz22_2); (try clear hcz22_3); (try clear hcz23_0); (try clear hcz23_1); (try clear hcz23_2); (try clear hcz23_3); (try clear hcz5_0); (try clear hcz5_1); (try clear hcz5_2); (try clear hcz5_3); (try clear hcz6_0); (try clear hcz6_1); (try clear hcz6_2); (try clear hcz6_3); (try clear hcz9_0); (try clear hcz9_1); (try clear hcz9_2); (try clear hcz9_3); (try clear hfz17_0); (try clear hfz17_1); (try clear hfz17_2); (try clear hfz17_3); (try clear hfz22_0); (try clear hfz22_1); (try clear hfz22_2); (try clear hfz22_3); (try clear hfz23_0); (try clear hfz23_1); (try clear hfz23_2); (try clear hfz23_3); (try clear hfz5_0); (try clear hfz5_1); (try clear hfz5_2); (try clear hfz5_3); (try clear hfz6_0); (try clear hfz6_1); (try clear hfz6_2); (try clear hfz6_3); (try clear hfz9_0); (try clear hfz9_1); (try clear hfz9_2); (try clear hfz9_3); (try clear hx302_0); (try clear p2); (try clear p3); (try clear p302); (try clear q1); (try clear q18); (try clear q3); (try clear q302)
       obtain ⟨kq, x4_15, rfl, HA, HJ15, HO_3, HO_296001, HO_296002, HO_296003, BK295, HR302_0, HB⟩ := hcut
       cases kq with
       | zero => exact absurd HA.out (by simp [sennitref10_Trim.j2])
       | succ kj15 =>
        have H := HA.out
        clear HA
        simp only [sennitref10_Trim.j2] at H
        have H' := am H
        clear H
        go_wp2
        go_loopg [5, 6, 7] kj15 (fun kq v5 v6 v7 w' => ∃ (x5_3 : List (List ByteArray)) (x6_3 : Bool) (x7_3 : Int), v6 = .bool x6_3 ∧ v7 = .int .i64 x7_3 ∧ Aside0 (sennitref10_Trim.l1 kq y303 x4_15 x5_3 x6_3 x7_3 a0_0 l0_1 l0_2 l0_3 = some r) ∧ Aside0 (kq ≤ kj15) ∧ Aside0 (Kd.V Kd.string 9 w' w.heap.size (fun k_ => ((P0_1_ k_ ∨ P0_2_ k_ ∨ P0_3_ k_) ∨ w.heap.size ≤ k_) ∧ some k_ ≠ (v5 : Value).ownBlock ∧ k_ ≠ gb295) (.slice A18 y303.length c18) y303) ∧ Aside0 (Kd.N (Kd.slice 9 Kd.string) 22 w' w.heap.size (fun k_ => ((P0_1_ k_ ∨ P0_2_ k_ ∨ P0_3_ k_) ∨ w.heap.size ≤ k_) ∧ k_ ≠ gb295) v5 x5_3) ∧ Aside0 (Kd.V Kd.string 9 w' w.heap.size (fun k_ => ((P0_1_ k_ ∨ P0_2_ k_ ∨ P0_3_ k_) ∨ w.heap.size ≤ k_) ∧ some k_ ≠ (v5 : Value).ownBlock ∧ k_ ≠ gb295) (.slice A0_1 l0_1.length c0_1) l0_1) ∧ Aside0 (Kd.V Kd.string 9 w' w.heap.size (fun k_ => ((P0_1_ k_ ∨ P0_2_ k_ ∨ P0_3_ k_) ∨ w.heap.size ≤ k_) ∧ some k_ ≠ (v5 : Value).ownBlock ∧ k_ ≠ gb295) (.slice A0_2 l0_2.length c0_2) l0_2) ∧ Aside0 (Kd.V (Kd.slice 9 Kd.string) 22 w' w.heap.size (fun k_ => ((P0_1_ k_ ∨ P0_2_ k_ ∨ P0_3_ k_) ∨ w.heap.size ≤ k_) ∧ some k_ ≠ (v5 : Value).ownBlock ∧ k_ ≠ gb295) (.slice (some ad302) l0_3.length c0_3) l0_3) ∧ Aside0 (w'.heap[gb295]? = some (.cells #[.bool a0_0, (.slice A0_1 l0_1.length c0_1), (.slice A0_2 l0_2.length c0_2), (.slice (some ad302) l0_3.length c0_3)] 27 (0, 0))) ∧ Aside0 (Below w.heap.size w w'))
        case atStart => exact ⟨(([] : List (List ByteArray))), (true), (0), (by first | rfl | (simp; done) | (simp [*]; done)), (by first | rfl | (simp; done) | (simp [*]; done)), H', ⟨Nat.le_refl _⟩, ⟨by (with_reducible repeat (first | apply vA | apply vN | apply vD)); exact Kd.V_mono HO_3.out (fun _ hk => ⟨hk.1, ⟨(by simp [Value.ownBlock]), hk.2⟩⟩)⟩, ⟨by first | exact Kd.S_nil _ _ _ _ _ | exact Kd.N_nil _ _ _ _ _ | exact Kd.V_nil _ _ _ _ _ | exact Kd.Q_nil _ _ _ _ _ | exact Kd.R_nil _ _ _ _ _⟩, ⟨by (with_reducible repeat (first | apply vA | apply vN | apply vD)); exact Kd.V_mono HO_296001.out (fun _ hk => ⟨hk.1, ⟨(by simp [Value.ownBlock]), hk.2⟩⟩)⟩, ⟨by (with_reducible repeat (first | apply vA | apply vN | apply vD)); exact Kd.V_mono HO_296002.out (fun _ hk => ⟨hk.1, ⟨(by simp [Value.ownBlock]), hk.2⟩⟩)⟩, ⟨by (with_reducible repeat (first | apply vA | apply vN | apply vD)); exact Kd.V_mono HO_296003.out (fun _ hk => ⟨hk.1, ⟨(by simp [Value.ownBlock]), hk.2⟩⟩)⟩, ⟨by (with_reducible repeat (first | refine blk_drewN ?_ _ | refine blk_drew ?_ | refine blk_alloc ?_ _)); exact BK295.out⟩, ⟨by repeat (first | (with_reducible first | exact HB.out | apply below_alloc | apply pw_below_drewN | apply below_drew1 | refine below_set ?_ GE295.out) | exact HB.out)⟩⟩
        case round =>
         clear H'
         (try clear c1); (try clear q1); (try clear c2); (try clear p2); (try clear c3); (try clear p3); (try clear q3); (try clear hx3); (try clear qi3); (try clear c4); (try clear p6); (try clear c7); (try clear c14); (try clear c14b0); (try clear c14b1); (try clear c15); (try clear c15b0); (try clear c15b1); (try clear c18); (try clear q18); (try clear c19); (try clear c19b0); (try clear c21); (try clear hcz17_0); (try clear hcz17_1); (try clear hcz17_2); (try clear hcz17_3); (try clear hcz22_0); (try clear hcz22_1); (try clear hcz22_2); (try clear hcz22_3); (try clear hcz23_0); (try clear hcz23_1); (try clear hcz23_2); (try clear hcz23_3); (try clear hcz5_0); (try clear hcz5_1); (try clear hcz5_2); (try clear hcz5_3); (try clear hcz6_0); (try clear hcz6_1); (try clear hcz6_2); (try clear hcz6_3); (try clear hcz9_0); (try clear hcz9_1); (try clear hcz9_2); (try clear hcz9_3); (try clear hfz17_0); (try clear hfz17_1); (try clear hfz17_2); (try clear hfz17_3); (try clear hfz22_0); (try clear hfz22_1); (try clear hfz22_2); (try clear hfz22_3); (try clear hfz23_0); (try clear hfz23_1); (try clear hfz23_2); (try clear hfz23_3); (try clear hfz5_0); (try clear hfz5_1); (try clear hfz5_2); (try clear hfz5_3); (try clear hfz6_0); (try clear hfz6_1); (try clear hfz6_2); (try clear hfz6_3); (try clear hfz9_0); (try clear hfz9_1); (try clear hfz9_2); (try clear hfz9_3); (try clear hx302_0); (try clear p2); (try clear p3); (try clear p302); (try clear p6); (try clear q1); (try clear q18); (try clear q3); (try clear q302)
         obtain ⟨x5_3, x6_3, x7_3, rfl, rfl, HA, HK3, HO_3, HO_5, HO_296001, HO_296002, HO_296003, BK295, HB⟩ := hrel
         cases gk with
         | zero => exact absurd HA.out (by simp [sennitref10_Trim.l1])
         | succ k3 =>
          have H := HA.out
          clear HA
          simp only [sennitref10_Trim.l1] at H
          by_cases c24 : x7_3 < (l0_3.length : Int)
          ·rw [if_pos c24] at H
           have c24b0 : decide (x7_3 < (l0_3.length : Int)) = true := decide_eq_true c24
           clear c24
           by_cases c25 : 0 ≤ x7_3
           ·rw [if_pos c25] at H
            have c25b0 : decide (0 ≤ x7_3) = true := decide_eq_true c25
            clear c25
            by_cases c26 : 0 ≤ x4_15
            ·rw [if_pos c26] at H
             have c26b0 := eq_true c26
             have c26b1 : decide (0 ≤ x4_15) = true := decide_eq_true c26
             clear c26
             by_cases c27 : x4_15 ≤ ((rd_L1 l0_3 x7_3).length : Int)
             ·rw [if_pos c27] at H
              have c27b0 := eq_true c27
              have c27b1 : decide (x4_15 ≤ ((rd_L1 l0_3 x7_3).length : Int)) = true := decide_eq_true c27
              clear c27
              obtain ⟨y310, hy310⟩ : ∃ y_ : List ByteArray, y_ = ((rd_L1 l0_3 x7_3).drop (x4_15 : Int).toNat) := ⟨_, rfl⟩
              replace H : (if x5_3.length < 5864062014805 then ((some (x5_3 ++ [y310] : List (List ByteArray))).bind fun y315 => (if x6_3 = true then (sennitref10_Trim.l1 k3 y303 x4_15 y315 (((rd_L1 l0_3 x7_3).length : Int) == x4_15) (wrap64 (x7_3 + 1)) a0_0 l0_1 l0_2 l0_3) else (sennitref10_Trim.l1 k3 y303 x4_15 y315 false (wrap64 (x7_3 + 1)) a0_0 l0_1 l0_2 l0_3))) else (none)) = some r := by first | (rw [hy310]; with_reducible exact H) | (have H2_ := (Option.bind_some _ _).symm.trans H; rw [hy310]; with_reducible exact H2_) | (have H2_ := (Option.bind_some _ _).symm.trans H; with_reducible exact H2_) | with_reducible exact H | (rw [hy310]; exact H) | exact H
              have Ny310 := am hy310
              clear hy310
              by_cases c28 : x5_3.length < 5864062014805
              ·rw [if_pos c28] at H
               have LMc28 := am c28
               clear c28
               obtain ⟨y315, hy315⟩ : ∃ y_ : List (List ByteArray), y_ = (x5_3 ++ [y310]) := ⟨_, rfl⟩
               replace H : (if x6_3 = true then (sennitref10_Trim.l1 k3 y303 x4_15 y315 (((rd_L1 l0_3 x7_3).length : Int) == x4_15) (wrap64 (x7_3 + 1)) a0_0 l0_1 l0_2 l0_3) else (sennitref10_Trim.l1 k3 y303 x4_15 y315 false (wrap64 (x7_3 + 1)) a0_0 l0_1 l0_2 l0_3)) = some r := by first | (rw [hy315]; with_reducible exact H) | (have H2_ := (Option.bind_some _ _).symm.trans H; rw [hy315]; with_reducible exact H2_) | (have H2_ := (Option.bind_some _ _).symm.trans H; with_reducible exact H2_) | with_reducible exact H | (rw [hy315]; exact H) | exact H
               have Ny315 := am hy315
               clear hy315
               by_cases c29 : x6_3 = true
               ·subst c29
                have H1 : (sennitref10_Trim.l1 k3 y303 x4_15 y315 (((rd_L1 l0_3 x7_3).length : Int) == x4_15) (wrap64 (x7_3 + 1)) a0_0 l0_1 l0_2 l0_3) = some r := by rw [if_pos rfl] at H; exact H
                clear H
                have H := H1
                clear H1
                have H' := am H
                clear H
                have hcz30_0 : wr.cell? ⟨gb295, 0, none⟩ = some (.bool a0_0) := (blk_cell BK295.out 0).trans rfl
                have hcz30_1 : wr.cell? ⟨gb295, 1, none⟩ = some (.slice A0_1 l0_1.length c0_1) := (blk_cell BK295.out 1).trans rfl
                have hcz30_2 : wr.cell? ⟨gb295, 2, none⟩ = some (.slice A0_2 l0_2.length c0_2) := (blk_cell BK295.out 2).trans rfl
                have hcz30_3 : wr.cell? ⟨gb295, 3, none⟩ = some (.slice (some ad302) l0_3.length c0_3) := (blk_cell BK295.out 3).trans rfl
                have hfz30_0 := blk_frozen BK295.out 0
                have hfz30_1 := blk_frozen BK295.out 1
                have hfz30_2 := blk_frozen BK295.out 2
                have hfz30_3 := blk_frozen BK295.out 3
                have p309 : 0 ≤ (x7_3 : Int) := of_decide_eq_true (by first | (with_reducible assumption) | assumption)
                have q309 : x7_3 < (l0_3.length : Int) := of_decide_eq_true (by first | (with_reducible assumption) | assumption)
                obtain ⟨ad309, A309_0, c309_0, e309, hx309_0, hl309_0, hi309_0⟩ := at_L1 (Kd.V_reads' HO_296003.out).2.2 x7_3 p309 q309
                obtain rfl : ad302 = ad309 := (by injection e309)
                obtain ⟨ce309, hce309, hMe309, hcc309⟩ := Kd.V_get HO_296003.out [] x7_3 p309 (by first | exact q309 | exact of_decide_eq_true (by first | (with_reducible assumption) | assumption) | (have e_ := (Kd.V_reads' HO_296003.out).1; omega))
                obtain ⟨ua309_0, uc309_0, rfl, ul309_0, ge309_0⟩ := Kd.FK_slice_open hMe309
                have hv309_0 := hcc309 0 _ rfl
                rw [Nat.add_zero, show ((Kd.slice 9 Kd.string)).sz = 1 from rfl, Nat.mul_one] at hv309_0
                replace hv309_0 := Option.some.inj (hv309_0.symm.trans hx309_0)
                injection hv309_0 with hva_ hvn_ hvc_
                rw [hva_] at ge309_0
                rw [hvc_] at ul309_0
                have HL309_0 := am (show Kd.V Kd.string 9 _ w.heap.size _ _ (rd_L1 l0_3 x7_3) from Kd.V_mk ul309_0 ge309_0)
                clear hva_ hvn_ hvc_ ge309_0 ul309_0
                clear hcc309 hce309
                have HR309_0 := am hi309_0
                have HC309_0 := am hl309_0
                clear hi309_0 hl309_0
                replace p309 := eq_true p309
                replace q309 := eq_true q309
                have q31 : (x4_15 : Int) ≤ (((rd_L1 l0_3 x7_3).length : Int) : Int) := of_decide_eq_true (by first | (with_reducible assumption) | assumption)
                obtain ⟨i031, hi031, _, hsz31, _⟩ := info_parts info9
                have hroom31 : (rd_L1 l0_3 x7_3).length ≤ c309_0 := HC309_0.out
                have hC31 : Kd.F Kd.string _ _ A309_0 (rd_L1 l0_3 x7_3).length (rd_L1 l0_3 x7_3) := (Kd.V_at (base := w.heap.size) HL309_0.out).2.2
                have q031 : (0 : Int) ≤ (x4_15 : Int) := of_decide_eq_true (by first | (with_reducible assumption) | assumption)
                have hcut31 := cut_from (P := Try.prog) 22 9 .i64 Try.underlying22 hi031 1 hsz31 A309_0 (rd_L1 l0_3 x7_3).length c309_0 x4_15 q031 q31
                have hr31 := Kd.F_cut (m := (x4_15 : Int).toNat) (c := c309_0) hC31 (by omega) hroom31
                obtain ⟨A31, hA31⟩ : ∃ A1x_, A1x_ = (if c309_0 = (x4_15 : Int).toNat then A309_0 else (A309_0 : Option Addr).map (·.add ((x4_15 : Int).toNat * 1))) := ⟨_, rfl⟩
                obtain ⟨c31, hc31⟩ : ∃ c1x_, c1x_ = c309_0 - (x4_15 : Int).toNat := ⟨_, rfl⟩
                have hy31 : y310.length = (rd_L1 l0_3 x7_3).length - (x4_15 : Int).toNat := (by rw [Ny310.out, List.length_drop] <;> omega)
                rw [show (rd_L1 l0_3 x7_3).drop (x4_15 : Int).toNat = y310 from Ny310.out.symm] at hr31
                replace hr31 : Kd.F Kd.string _ _ A31 y310.length y310 := (by rw [hA31]; exact hr31)
                rw [← hy31, ← hA31, ← hc31] at hcut31
                have HO314 := am (show Kd.V Kd.string 9 _ w.heap.size _ (.slice A31 y310.length c31) y310 from Kd.V_mk (by rw [hy31, hc31]; exact Nat.sub_le_sub_right hroom31 _) hr31)
                have HC314 := am (show y310.length ≤ c31 from by rw [hy31, hc31]; exact Nat.sub_le_sub_right hroom31 _)
                clear hr31 hC31 hroom31 hi031 hsz31 hc31
                have KY31 := am hy31
                have KA31 := am hA31
                clear hy31 hA31
                replace q31 := eq_true q31
                go_wp2_with (first | ((with_reducible refine gate_builtin (b := .append) (xs := #[.tmp 47, .tmp 55]) rfl ?_); (try (refine gate_guard (by rfl) ?_; dsimp only)); at_builtin; refine Kd.N_append (Kd.slice 9 Kd.string) (w0 := w) w.heap.size rfl (.tmp 47) (.tmp 55) 23 22 (.slice none 0 0) 24 rfl Try.underlying23 info22 rfl (by decide) (by omega) u5 x5_3 y310 [.slice A31 y310.length c31] (fun k_ => ((P0_1_ k_ ∨ P0_2_ k_ ∨ P0_3_ k_) ∨ w.heap.size ≤ k_) ∧ k_ ≠ gb295) (fun k_ => ((fun k_ => ((P0_1_ k_ ∨ P0_2_ k_ ∨ P0_3_ k_) ∨ w.heap.size ≤ k_) ∧ k_ ≠ gb295)) k_ ∧ some k_ ≠ (u5 : Value).ownBlock) rfl rfl ?aP (fun _ hk => hk) ?aF ?aO ?aB ?aS ?aL ?_; (case aP => exact (Kd.FK_slice_mk (Kd.V_reads' (Kd.V_mono (ok' := (fun k_ => ((fun k_ => ((P0_1_ k_ ∨ P0_2_ k_ ∨ P0_3_ k_) ∨ w.heap.size ≤ k_) ∧ k_ ≠ gb295)) k_ ∧ some k_ ≠ (u5 : Value).ownBlock)) (HO314.out) (fun k_ hk => ⟨⟨hk.1, hk.2.2⟩, hk.2.1⟩))).2.1 (Kd.V_F (Kd.V_mono (ok' := (fun k_ => ((fun k_ => ((P0_1_ k_ ∨ P0_2_ k_ ∨ P0_3_ k_) ∨ w.heap.size ≤ k_) ∧ k_ ≠ gb295)) k_ ∧ some k_ ≠ (u5 : Value).ownBlock)) (HO314.out) (fun k_ hk => ⟨⟨hk.1, hk.2.2⟩, hk.2.1⟩))))); (case aB => exact (by repeat (first | (with_reducible first | exact HB.out | apply below_alloc | apply pw_below_drewN | apply below_drew1 | refine below_set ?_ GE295.out) | exact HB.out))); (case aF => exact (fun k_ hk => ⟨(.inr (Nat.le_trans (below_size (by repeat (first | (with_reducible first | exact HB.out | apply below_alloc | apply pw_below_drewN | apply below_drew1 | refine below_set ?_ GE295.out) | exact HB.out))) hk)), Kd.freshB (g := gb295) (o := .cells #[.bool a0_0, .slice A0_1 l0_1.length c0_1, .slice A0_2 l0_2.length c0_2, .slice (some ad302) l0_3.length c0_3] 27 (0, 0)) (by (with_reducible repeat (first | refine blk_drewN ?_ _ | refine blk_drew ?_ | refine blk_alloc ?_ _)); exact BK295.out) k_ hk⟩)); (case aO => exact (by (with_reducible repeat (first | apply nA | apply nN | apply nD)); exact HO_5.out)); (case aS => exact (below_size (by repeat (first | (with_reducible first | exact HB.out | apply below_alloc | apply pw_below_drewN | apply below_drew1 | refine below_set ?_ GE295.out) | exact HB.out)))); (case aL => have := LMc28.out; omega); intro v316 w32 ho hb hg hat; rw [← Ny315.out] at ho; have n0_ := am (Kd.V_afterv (ok := (fun k_ => ((P0_1_ k_ ∨ P0_2_ k_ ∨ P0_3_ k_) ∨ w.heap.size ≤ k_) ∧ k_ ≠ gb295)) (by (with_reducible repeat (first | apply vA | apply vN | apply vD)); exact Kd.V_mono HO_3.out (fun _ hk => ⟨⟨hk.1, hk.2.2⟩, hk.2.1⟩)) hg hat); have n1_ := am (Kd.V_afterv (ok := (fun k_ => ((P0_1_ k_ ∨ P0_2_ k_ ∨ P0_3_ k_) ∨ w.heap.size ≤ k_) ∧ k_ ≠ gb295)) (by (with_reducible repeat (first | apply vA | apply vN | apply vD)); exact Kd.V_mono HO_296001.out (fun _ hk => ⟨⟨hk.1, hk.2.2⟩, hk.2.1⟩)) hg hat); have n2_ := am (Kd.V_afterv (ok := (fun k_ => ((P0_1_ k_ ∨ P0_2_ k_ ∨ P0_3_ k_) ∨ w.heap.size ≤ k_) ∧ k_ ≠ gb295)) (by (with_reducible repeat (first | apply vA | apply vN | apply vD)); exact Kd.V_mono HO_296002.out (fun _ hk => ⟨⟨hk.1, hk.2.2⟩, hk.2.1⟩)) hg hat); have n3_ := am (Kd.V_afterv (ok := (fun k_ => ((P0_1_ k_ ∨ P0_2_ k_ ∨ P0_3_ k_) ∨ w.heap.size ≤ k_) ∧ k_ ≠ gb295)) (by (with_reducible repeat (first | apply vA | apply vN | apply vD)); exact Kd.V_mono HO_296003.out (fun _ hk => ⟨⟨hk.1, hk.2.2⟩, hk.2.1⟩)) hg hat); have n4_ := am (blk_grown (g := gb295) (o := .cells #[.bool a0_0, .slice A0_1 l0_1.length c0_1, .slice A0_2 l0_2.length c0_2, .slice (some ad302) l0_3.length c0_3] 27 (0, 0)) (by (with_reducible repeat (first | refine blk_drewN ?_ _ | refine blk_drew ?_ | refine blk_alloc ?_ _)); exact BK295.out) hg (Kd.N_ne HO_5.out BK295.out (by decide))); have n5_ := am (Kd.V_afterv (ok := (fun k_ => ((P0_1_ k_ ∨ P0_2_ k_ ∨ P0_3_ k_) ∨ w.heap.size ≤ k_) ∧ k_ ≠ gb295)) (by (with_reducible repeat (first | apply vA | apply vN | apply vD)); exact Kd.V_mono HL309_0.out (fun _ hk => ⟨⟨hk.1, hk.2.2⟩, hk.2.1⟩)) hg hat); have n6_ := am (Kd.V_afterv (ok := (fun k_ => ((P0_1_ k_ ∨ P0_2_ k_ ∨ P0_3_ k_) ∨ w.heap.size ≤ k_) ∧ k_ ≠ gb295)) (by (with_reducible repeat (first | apply vA | apply vN | apply vD)); exact Kd.V_mono HO314.out (fun _ hk => ⟨⟨hk.1, hk.2.2⟩, hk.2.1⟩)) hg hat); have n7_ := am (hb); have n8_ := am (ho); clear HO_3; clear HO_296001; clear HO_296002; clear HO_296003; clear BK295; clear HL309_0; clear HO314; clear HB; clear HO_5; have HO_3 := n0_; have HO_296001 := n1_; have HO_296002 := n2_; have HO_296003 := n3_; have BK295 := n4_; have HL309_0 := n5_; have HO314 := n6_; have HB := n7_; have HO317 := n8_; clear n0_ n1_ n2_ n3_ n4_ n5_ n6_ n7_ n8_; clear ho hb hg hat; have hcz33_0 : w32.cell? ⟨gb295, 0, none⟩ = some (.bool a0_0) := (blk_cell BK295.out 0).trans rfl; have hcz33_1 : w32.cell? ⟨gb295, 1, none⟩ = some (.slice A0_1 l0_1.length c0_1) := (blk_cell BK295.out 1).trans rfl; have hcz33_2 : w32.cell? ⟨gb295, 2, none⟩ = some (.slice A0_2 l0_2.length c0_2) := (blk_cell BK295.out 2).trans rfl; have hcz33_3 : w32.cell? ⟨gb295, 3, none⟩ = some (.slice (some ad302) l0_3.length c0_3) := (blk_cell BK295.out 3).trans rfl; have hfz33_0 := blk_frozen BK295.out 0; have hfz33_1 := blk_frozen BK295.out 1; have hfz33_2 := blk_frozen BK295.out 2; have hfz33_3 := blk_frozen BK295.out 3; have p318 : 0 ≤ (x7_3 : Int) := of_decide_eq_true (by first | (with_reducible assumption) | assumption); have q318 : x7_3 < (l0_3.length : Int) := of_decide_eq_true (by first | (with_reducible assumption) | assumption); obtain ⟨ad318, A318_0, c318_0, e318, hx318_0, hl318_0, hi318_0⟩ := at_L1 (Kd.V_reads' HO_296003.out).2.2 x7_3 p318 q318; obtain rfl : ad302 = ad318 := (by injection e318); obtain ⟨ce318, hce318, hMe318, hcc318⟩ := Kd.V_get HO_296003.out [] x7_3 p318 (by first | exact q318 | exact of_decide_eq_true (by first | (with_reducible assumption) | assumption) | (have e_ := (Kd.V_reads' HO_296003.out).1; omega)); obtain ⟨ua318_0, uc318_0, rfl, ul318_0, ge318_0⟩ := Kd.FK_slice_open hMe318; have hv318_0 := hcc318 0 _ rfl; rw [Nat.add_zero, show ((Kd.slice 9 Kd.string)).sz = 1 from rfl, Nat.mul_one] at hv318_0; replace hv318_0 := Option.some.inj (hv318_0.symm.trans hx318_0); injection hv318_0 with hva_ hvn_ hvc_; rw [hva_] at ge318_0; rw [hvc_] at ul318_0; have HL318_0 := am (show Kd.V Kd.string 9 _ w.heap.size _ _ (rd_L1 l0_3 x7_3) from Kd.V_mk ul318_0 ge318_0); clear hva_ hvn_ hvc_ ge318_0 ul318_0; clear hcc318 hce318; have HR318_0 := am hi318_0; have HC318_0 := am hl318_0; clear hi318_0 hl318_0; replace p318 := eq_true p318; replace q318 := eq_true q318))
                go_roundg k3
                case measure => have := HJ1.out; have := HJ15.out; have := HK3.out; omega
                case rel => exact ⟨(y315), ((((rd_L1 l0_3 x7_3).length : Int) == x4_15)), (wrap64 (x7_3 + 1)), (by first | rfl | (simp; done) | (simp [*]; done)), (by first | rfl | (simp; done) | (simp [*]; done)), H', ⟨by have := HJ1.out; have := HJ15.out; have := HK3.out; omega⟩, ⟨by (with_reducible repeat (first | apply vA | apply vN | apply vD)); exact Kd.V_mono HO_3.out (fun _ hk => ⟨hk.1.1, ⟨hk.2, hk.1.2⟩⟩)⟩, ⟨by (with_reducible repeat (first | apply nA | apply nN | apply nD)); exact HO317.out⟩, ⟨by (with_reducible repeat (first | apply vA | apply vN | apply vD)); exact Kd.V_mono HO_296001.out (fun _ hk => ⟨hk.1.1, ⟨hk.2, hk.1.2⟩⟩)⟩, ⟨by (with_reducible repeat (first | apply vA | apply vN | apply vD)); exact Kd.V_mono HO_296002.out (fun _ hk => ⟨hk.1.1, ⟨hk.2, hk.1.2⟩⟩)⟩, ⟨by (with_reducible repeat (first | apply vA | apply vN | apply vD)); exact Kd.V_mono HO_296003.out (fun _ hk => ⟨hk.1.1, ⟨hk.2, hk.1.2⟩⟩)⟩, ⟨by (with_reducible repeat (first | refine blk_drewN ?_ _ | refine blk_drew ?_ | refine blk_alloc ?_ _)); exact BK295.out⟩, ⟨by repeat (first | (with_reducible first | exact HB.out | apply below_alloc | apply pw_below_drewN | apply below_drew1 | refine below_set ?_ GE295.out) | exact HB.out)⟩⟩
               ·replace c29 := Bool.eq_false_iff.mpr c29
                subst c29
                have H1 : (sennitref10_Trim.l1 k3 y303 x4_15 y315 false (wrap64 (x7_3 + 1)) a0_0 l0_1 l0_2 l0_3) = some r := by rw [if_neg (show ¬ (false = true) by decide)] at H; exact H
                clear H
                have H := H1
                clear H1
                have H' := am H
                clear H
                have hcz34_0 : wr.cell? ⟨gb295, 0, none⟩ = some (.bool a0_0) := (blk_cell BK295.out 0).trans rfl
                have hcz34_1 : wr.cell? ⟨gb295, 1, none⟩ = some (.slice A0_1 l0_1.length c0_1) := (blk_cell BK295.out 1).trans rfl
                have hcz34_2 : wr.cell? ⟨gb295, 2, none⟩ = some (.slice A0_2 l0_2.length c0_2) := (blk_cell BK295.out 2).trans rfl
                have hcz34_3 : wr.cell? ⟨gb295, 3, none⟩ = some (.slice (some ad302) l0_3.length c0_3) := (blk_cell BK295.out 3).trans rfl
                have hfz34_0 := blk_frozen BK295.out 0
                have hfz34_1 := blk_frozen BK295.out 1
                have hfz34_2 := blk_frozen BK295.out 2
                have hfz34_3 := blk_frozen BK295.out 3
                have p309 : 0 ≤ (x7_3 : Int) := of_decide_eq_true (by first | (with_reducible assumption) | assumption)
                have q309 : x7_3 < (l0_3.length : Int) := of_decide_eq_true (by first | (with_reducible assumption) | assumption)
                obtain ⟨ad309, A309_0, c309_0, e309, hx309_0, hl309_0, hi309_0⟩ := at_L1 (Kd.V_reads' HO_296003.out).2.2 x7_3 p309 q309
                obtain rfl : ad302 = ad309 := (by injection e309)
                obtain ⟨ce309, hce309, hMe309, hcc309⟩ := Kd.V_get HO_296003.out [] x7_3 p309 (by first | exact q309 | exact of_decide_eq_true (by first | (with_reducible assumption) | assumption) | (have e_ := (Kd.V_reads' HO_296003.out).1; omega))
                obtain ⟨ua309_0, uc309_0, rfl, ul309_0, ge309_0⟩ := Kd.FK_slice_open hMe309
                have hv309_0 := hcc309 0 _ rfl
                rw [Nat.add_zero, show ((Kd.slice 9 Kd.string)).sz = 1 from rfl, Nat.mul_one] at hv309_0
                replace hv309_0 := Option.some.inj (hv309_0.symm.trans hx309_0)
                injection hv309_0 with hva_ hvn_ hvc_
                rw [hva_] at ge309_0
                rw [hvc_] at ul309_0
                have HL309_0 := am (show Kd.V Kd.string 9 _ w.heap.size _ _ (rd_L1 l0_3 x7_3) from Kd.V_mk ul309_0 ge309_0)
                clear hva_ hvn_ hvc_ ge309_0 ul309_0
                clear hcc309 hce309
                have HR309_0 := am hi309_0
                have HC309_0 := am hl309_0
                clear hi309_0 hl309_0
                replace p309 := eq_true p309
                replace q309 := eq_true q309
                have q35 : (x4_15 : Int) ≤ (((rd_L1 l0_3 x7_3).length : Int) : Int) := of_decide_eq_true (by first | (with_reducible assumption) | assumption)
                obtain ⟨i035, hi035, _, hsz35, _⟩ := info_parts info9
                have hroom35 : (rd_L1 l0_3 x7_3).length ≤ c309_0 := HC309_0.out
                have hC35 : Kd.F Kd.string _ _ A309_0 (rd_L1 l0_3 x7_3).length (rd_L1 l0_3 x7_3) := (Kd.V_at (base := w.heap.size) HL309_0.out).2.2
                have q035 : (0 : Int) ≤ (x4_15 : Int) := of_decide_eq_true (by first | (with_reducible assumption) | assumption)
                have hcut35 := cut_from (P := Try.prog) 22 9 .i64 Try.underlying22 hi035 1 hsz35 A309_0 (rd_L1 l0_3 x7_3).length c309_0 x4_15 q035 q35
                have hr35 := Kd.F_cut (m := (x4_15 : Int).toNat) (c := c309_0) hC35 (by omega) hroom35
                obtain ⟨A35, hA35⟩ : ∃ A1x_, A1x_ = (if c309_0 = (x4_15 : Int).toNat then A309_0 else (A309_0 : Option Addr).map (·.add ((x4_15 : Int).toNat * 1))) := ⟨_, rfl⟩
                obtain ⟨c35, hc35⟩ : ∃ c1x_, c1x_ = c309_0 - (x4_15 : Int).toNat := ⟨_, rfl⟩
                have hy35 : y310.length = (rd_L1 l0_3 x7_3).length - (x4_15 : Int).toNat := (by rw [Ny310.out, List.length_drop] <;> omega)
                rw [show (rd_L1 l0_3 x7_3).drop (x4_15 : Int).toNat = y310 from Ny310.out.symm] at hr35
                replace hr35 : Kd.F Kd.string _ _ A35 y310.length y310 := (by rw [hA35]; exact hr35)
                rw [← hy35, ← hA35, ← hc35] at hcut35
                have HO314 := am (show Kd.V Kd.string 9 _ w.heap.size _ (.slice A35 y310.length c35) y310 from Kd.V_mk (by rw [hy35, hc35]; exact Nat.sub_le_sub_right hroom35 _) hr35)
                have HC314 := am (show y310.length ≤ c35 from by rw [hy35, hc35]; exact Nat.sub_le_sub_right hroom35 _)
                clear hr35 hC35 hroom35 hi035 hsz35 hc35
                have KY35 := am hy35
                have KA35 := am hA35
                clear hy35 hA35
                replace q35 := eq_true q35
                go_wp2_with (first | ((with_reducible refine gate_builtin (b := .append) (xs := #[.tmp 47, .tmp 55]) rfl ?_); (try (refine gate_guard (by rfl) ?_; dsimp only)); at_builtin; refine Kd.N_append (Kd.slice 9 Kd.string) (w0 := w) w.heap.size rfl (.tmp 47) (.tmp 55) 23 22 (.slice none 0 0) 24 rfl Try.underlying23 info22 rfl (by decide) (by omega) u5 x5_3 y310 [.slice A35 y310.length c35] (fun k_ => ((P0_1_ k_ ∨ P0_2_ k_ ∨ P0_3_ k_) ∨ w.heap.size ≤ k_) ∧ k_ ≠ gb295) (fun k_ => ((fun k_ => ((P0_1_ k_ ∨ P0_2_ k_ ∨ P0_3_ k_) ∨ w.heap.size ≤ k_) ∧ k_ ≠ gb295)) k_ ∧ some k_ ≠ (u5 : Value).ownBlock) rfl rfl ?aP (fun _ hk => hk) ?aF ?aO ?aB ?aS ?aL ?_; (case aP => exact (Kd.FK_slice_mk (Kd.V_reads' (Kd.V_mono (ok' := (fun k_ => ((fun k_ => ((P0_1_ k_ ∨ P0_2_ k_ ∨ P0_3_ k_) ∨ w.heap.size ≤ k_) ∧ k_ ≠ gb295)) k_ ∧ some k_ ≠ (u5 : Value).ownBlock)) (HO314.out) (fun k_ hk => ⟨⟨hk.1, hk.2.2⟩, hk.2.1⟩))).2.1 (Kd.V_F (Kd.V_mono (ok' := (fun k_ => ((fun k_ => ((P0_1_ k_ ∨ P0_2_ k_ ∨ P0_3_ k_) ∨ w.heap.size ≤ k_) ∧ k_ ≠ gb295)) k_ ∧ some k_ ≠ (u5 : Value).ownBlock)) (HO314.out) (fun k_ hk => ⟨⟨hk.1, hk.2.2⟩, hk.2.1⟩))))); (case aB => exact (by repeat (first | (with_reducible first | exact HB.out | apply below_alloc | apply pw_below_drewN | apply below_drew1 | refine below_set ?_ GE295.out) | exact HB.out))); (case aF => exact (fun k_ hk => ⟨(.inr (Nat.le_trans (below_size (by repeat (first | (with_reducible first | exact HB.out | apply below_alloc | apply pw_below_drewN | apply below_drew1 | refine below_set ?_ GE295.out) | exact HB.out))) hk)), Kd.freshB (g := gb295) (o := .cells #[.bool a0_0, .slice A0_1 l0_1.length c0_1, .slice A0_2 l0_2.length c0_2, .slice (some ad302) l0_3.length c0_3] 27 (0, 0)) (by (with_reducible repeat (first | refine blk_drewN ?_ _ | refine blk_drew ?_ | refine blk_alloc ?_ _)); exact BK295.out) k_ hk⟩)); (case aO => exact (by (with_reducible repeat (first | apply nA | apply nN | apply nD)); exact HO_5.out)); (case aS => exact (below_size (by repeat (first | (with_reducible first | exact HB.out | apply below_alloc | apply pw_below_drewN | apply below_drew1 | refine below_set ?_ GE295.out) | exact HB.out)))); (case aL => have := LMc28.out; omega); intro v316 w36 ho hb hg hat; rw [← Ny315.out] at ho; have n0_ := am (Kd.V_afterv (ok := (fun k_ => ((P0_1_ k_ ∨ P0_2_ k_ ∨ P0_3_ k_) ∨ w.heap.size ≤ k_) ∧ k_ ≠ gb295)) (by (with_reducible repeat (first | apply vA | apply vN | apply vD)); exact Kd.V_mono HO_3.out (fun _ hk => ⟨⟨hk.1, hk.2.2⟩, hk.2.1⟩)) hg hat); have n1_ := am (Kd.V_afterv (ok := (fun k_ => ((P0_1_ k_ ∨ P0_2_ k_ ∨ P0_3_ k_) ∨ w.heap.size ≤ k_) ∧ k_ ≠ gb295)) (by (with_reducible repeat (first | apply vA | apply vN | apply vD)); exact Kd.V_mono HO_296001.out (fun _ hk => ⟨⟨hk.1, hk.2.2⟩, hk.2.1⟩)) hg hat); have n2_ := am (Kd.V_afterv (ok := (fun k_ => ((P0_1_ k_ ∨ P0_2_ k_ ∨ P0_3_ k_) ∨ w.heap.size ≤ k_) ∧ k_ ≠ gb295)) (by (with_reducible repeat (first | apply vA | apply vN | apply vD)); exact Kd.V_mono HO_296002.out (fun _ hk => ⟨⟨hk.1, hk.2.2⟩, hk.2.1⟩)) hg hat); have n3_ := am (Kd.V_afterv (ok := (fun k_ => ((P0_1_ k_ ∨ P0_2_ k_ ∨ P0_3_ k_) ∨ w.heap.size ≤ k_) ∧ k_ ≠ gb295)) (by (with_reducible repeat (first | apply vA | apply vN | apply vD)); exact Kd.V_mono HO_296003.out (fun _ hk => ⟨⟨hk.1, hk.2.2⟩, hk.2.1⟩)) hg hat); have n4_ := am (blk_grown (g := gb295) (o := .cells #[.bool a0_0, .slice A0_1 l0_1.length c0_1, .slice A0_2 l0_2.length c0_2, .slice (some ad302) l0_3.length c0_3] 27 (0, 0)) (by (with_reducible repeat (first | refine blk_drewN ?_ _ | refine blk_drew ?_ | refine blk_alloc ?_ _)); exact BK295.out) hg (Kd.N_ne HO_5.out BK295.out (by decide))); have n5_ := am (Kd.V_afterv (ok := (fun k_ => ((P0_1_ k_ ∨ P0_2_ k_ ∨ P0_3_ k_) ∨ w.heap.size ≤ k_) ∧ k_ ≠ gb295)) (by (with_reducible repeat (first | apply vA | apply vN | apply vD)); exact Kd.V_mono HL309_0.out (fun _ hk => ⟨⟨hk.1, hk.2.2⟩, hk.2.1⟩)) hg hat); have n6_ := am (Kd.V_afterv (ok := (fun k_ => ((P0_1_ k_ ∨ P0_2_ k_ ∨ P0_3_ k_) ∨ w.heap.size ≤ k_) ∧ k_ ≠ gb295)) (by (with_reducible repeat (first | apply vA | apply vN | apply vD)); exact Kd.V_mono HO314.out (fun _ hk => ⟨⟨hk.1, hk.2.2⟩, hk.2.1⟩)) hg hat); have n7_ := am (hb); have n8_ := am (ho); clear HO_3; clear HO_296001; clear HO_296002; clear HO_296003; clear BK295; clear HL309_0; clear HO314; clear HB; clear HO_5; have HO_3 := n0_; have HO_296001 := n1_; have HO_296002 := n2_; have HO_296003 := n3_; have BK295 := n4_; have HL309_0 := n5_; have HO314 := n6_; have HB := n7_; have HO317 := n8_; clear n0_ n1_ n2_ n3_ n4_ n5_ n6_ n7_ n8_; clear ho hb hg hat))
                go_roundg k3
                case measure => have := HJ1.out; have := HJ15.out; have := HK3.out; omega
                case rel => exact ⟨(y315), (false), (wrap64 (x7_3 + 1)), (by first | rfl | (simp; done) | (simp [*]; done)), (by first | rfl | (simp; done) | (simp [*]; done)), H', ⟨by have := HJ1.out; have := HJ15.out; have := HK3.out; omega⟩, ⟨by (with_reducible repeat (first | apply vA | apply vN | apply vD)); exact Kd.V_mono HO_3.out (fun _ hk => ⟨hk.1.1, ⟨hk.2, hk.1.2⟩⟩)⟩, ⟨by (with_reducible repeat (first | apply nA | apply nN | apply nD)); exact HO317.out⟩, ⟨by (with_reducible repeat (first | apply vA | apply vN | apply vD)); exact Kd.V_mono HO_296001.out (fun _ hk => ⟨hk.1.1, ⟨hk.2, hk.1.2⟩⟩)⟩, ⟨by (with_reducible repeat (first | apply vA | apply vN | apply vD)); exact Kd.V_mono HO_296002.out (fun _ hk => ⟨hk.1.1, ⟨hk.2, hk.1.2⟩⟩)⟩, ⟨by (with_reducible repeat (first | apply vA | apply vN | apply vD)); exact Kd.V_mono HO_296003.out (fun _ hk => ⟨hk.1.1, ⟨hk.2, hk.1.2⟩⟩)⟩, ⟨by (with_reducible repeat (first | refine blk_drewN ?_ _ | refine blk_drew ?_ | refine blk_alloc ?_ _)); exact BK295.out⟩, ⟨by repeat (first | (with_reducible first | exact HB.out | apply below_alloc | apply pw_below_drewN | apply below_drew1 | refine below_set ?_ GE295.out) | exact HB.out)⟩⟩
              ·rw [if_neg c28] at H
               exact absurd H (by simp)
             ·rw [if_neg c27] at H
              exact absurd H (by simp)
            ·rw [if_neg c26] at H
             exact absurd H (by simp)
           ·rw [if_neg c25] at H
            exact absurd H (by simp)
          ·rw [if_neg c24] at H
           have c24b0 : decide (x7_3 < (l0_3.length : Int)) = false := decide_eq_false c24
           clear c24
           by_cases c37 : x6_3 = true
           ·subst c37
            have H1 : ((sennitref07_Normal.f k3 (([(⟨false, y303, ([] : List ByteArray), ([] : List (List ByteArray))⟩ : S27)] : List (S27)))).bind fun t322 => (some t322)) = some r := by rw [if_pos rfl] at H; exact H
            clear H
            have H := H1
            clear H1
            obtain ⟨y319, hy319⟩ : ∃ y_ : List (S27), y_ = (([(⟨false, y303, ([] : List ByteArray), ([] : List (List ByteArray))⟩ : S27)] : List (S27))) := ⟨_, rfl⟩
            replace H : ((sennitref07_Normal.f k3 y319).bind fun t322 => (some t322)) = some r := by first | (rw [hy319]; with_reducible exact H) | (have H2_ := (Option.bind_some _ _).symm.trans H; rw [hy319]; with_reducible exact H2_) | (have H2_ := (Option.bind_some _ _).symm.trans H; with_reducible exact H2_) | with_reducible exact H | (rw [hy319]; exact H) | exact H
            have Ny319 := am hy319
            clear hy319
            replace H := Option.bind_eq_some_iff.mp H
            obtain ⟨t322, A380, H⟩ := H
            replace H : (some t322) = some r := H
            have A38 := am A380
            clear A380
            obtain rfl := Option.some.inj H
            have hcz39_0 : wr.cell? ⟨gb295, 0, none⟩ = some (.bool a0_0) := (blk_cell BK295.out 0).trans rfl
            have hcz39_1 : wr.cell? ⟨gb295, 1, none⟩ = some (.slice A0_1 l0_1.length c0_1) := (blk_cell BK295.out 1).trans rfl
            have hcz39_2 : wr.cell? ⟨gb295, 2, none⟩ = some (.slice A0_2 l0_2.length c0_2) := (blk_cell BK295.out 2).trans rfl
            have hcz39_3 : wr.cell? ⟨gb295, 3, none⟩ = some (.slice (some ad302) l0_3.length c0_3) := (blk_cell BK295.out 3).trans rfl
            have hfz39_0 := blk_frozen BK295.out 0
            have hfz39_1 := blk_frozen BK295.out 1
            have hfz39_2 := blk_frozen BK295.out 2
            have hfz39_3 := blk_frozen BK295.out 3
            go_wp2_with (first | ((with_reducible refine gate_dst (N := 71) rfl ?_); (try (refine gate_guard (by rfl) ?_; dsimp only)); refine Kd.N_lit k27 _ 27 ?hg (N' := 71) ?hd (xs := ([(⟨false, y303, ([] : List ByteArray), ([] : List (List ByteArray))⟩ : S27)] : List (S27))) (inner := [.bool false, .slice A18 y303.length c18, .slice none 0 0, .slice none 0 0]) (ok := (fun k_ => ((P0_1_ k_ ∨ P0_2_ k_ ∨ P0_3_ k_) ∨ w.heap.size ≤ k_) ∧ some k_ ≠ (u5 : Value).ownBlock ∧ k_ ≠ gb295)) (okp := (fun k_ => ((P0_1_ k_ ∨ P0_2_ k_ ∨ P0_3_ k_) ∨ w.heap.size ≤ k_) ∧ some k_ ≠ (u5 : Value).ownBlock ∧ k_ ≠ gb295)) ?hr ?hp (fun _ hk => hk) ((show ∀ k_, wr.heap.size ≤ k_ → (fun k_ => ((P0_1_ k_ ∨ P0_2_ k_ ∨ P0_3_ k_) ∨ w.heap.size ≤ k_) ∧ some k_ ≠ (u5 : Value).ownBlock ∧ k_ ≠ gb295) k_ from fun k_ hk => ⟨(.inr (Nat.le_trans (below_size (by repeat (first | (with_reducible first | exact HB.out | apply below_alloc | apply pw_below_drewN | apply below_drew1 | refine below_set ?_ GE295.out) | exact HB.out))) hk)), Kd.fresh' (Kd.N_lt (by (with_reducible repeat (first | apply nA | apply nN | apply nD)); exact HO_5.out)) k_ hk, Kd.freshB (g := gb295) (o := .cells #[.bool a0_0, .slice A0_1 l0_1.length c0_1, .slice A0_2 l0_2.length c0_2, .slice (some ad302) l0_3.length c0_3] 27 (0, 0)) (by (with_reducible repeat (first | refine blk_drewN ?_ _ | refine blk_drew ?_ | refine blk_alloc ?_ _)); exact BK295.out) k_ hk⟩) _ (Nat.le_refl _)) (Below.refl _ _) (Nat.le_refl _) (by simp) ?_; (case hd => rfl); (case hg => rfl); (case hr => first | (go_simp; done) | (go_simp; rfl)); (case hp => exact (Reps.c4 (show Kd.FK k27 _ _ (⟨false, y303, ([] : List ByteArray), ([] : List (List ByteArray))⟩ : S27) [.bool false, .slice A18 y303.length c18, .slice none 0 0, .slice none 0 0] from (k27_mkF _ _ (⟨false, y303, ([] : List ByteArray), ([] : List (List ByteArray))⟩ : S27) (Kd.V_reads' (Kd.V_mono (ok' := (fun k_ => ((P0_1_ k_ ∨ P0_2_ k_ ∨ P0_3_ k_) ∨ w.heap.size ≤ k_) ∧ some k_ ≠ (u5 : Value).ownBlock ∧ k_ ≠ gb295)) (HO_3.out) (fun k_ hk => ⟨hk.1, ⟨hk.2.1, hk.2.2⟩⟩))).2.1 (Kd.V_F (Kd.V_mono (ok' := (fun k_ => ((P0_1_ k_ ∨ P0_2_ k_ ∨ P0_3_ k_) ∨ w.heap.size ≤ k_) ∧ some k_ ≠ (u5 : Value).ownBlock ∧ k_ ≠ gb295)) (HO_3.out) (fun k_ hk => ⟨hk.1, ⟨hk.2.1, hk.2.2⟩⟩))) (Nat.le_refl _) (Kd.F_nil _ _ _) (Nat.le_refl _) (Kd.F_nil _ _ _))) (Reps.none _ _))); intro v320 w40 ho41 hb hg_ hnew_; clear hg_ hnew_; (first | rw [← Ny319.out] at ho41 | (simp only [Int.reduceToNat] at ho41; rw [← Ny319.out] at ho41)); have n0_ := am (Kd.V_elder' (by (with_reducible repeat (first | apply vA | apply vN | apply vD)); exact HO_3.out) (Kd.N_base ho41) hb); have n1_ := am (Kd.N_elder' (by (with_reducible repeat (first | apply nA | apply nN | apply nD)); exact HO_5.out) (Kd.N_base ho41) hb); have n2_ := am (Kd.V_elder' (by (with_reducible repeat (first | apply vA | apply vN | apply vD)); exact HO_296001.out) (Kd.N_base ho41) hb); have n3_ := am (Kd.V_elder' (by (with_reducible repeat (first | apply vA | apply vN | apply vD)); exact HO_296002.out) (Kd.N_base ho41) hb); have n4_ := am (Kd.V_elder' (by (with_reducible repeat (first | apply vA | apply vN | apply vD)); exact HO_296003.out) (Kd.N_base ho41) hb); have n5_ := am (Kd.N_lower ho41 (below_size (by repeat (first | (with_reducible first | exact HB.out | apply below_alloc | apply pw_below_drewN | apply below_drew1 | refine below_set ?_ GE295.out) | exact HB.out)))); have n6_ := am (blk_below (g := gb295) (o := .cells #[.bool a0_0, .slice A0_1 l0_1.length c0_1, .slice A0_2 l0_2.length c0_2, .slice (some ad302) l0_3.length c0_3] 27 (0, 0)) (by (with_reducible repeat (first | refine blk_drewN ?_ _ | refine blk_drew ?_ | refine blk_alloc ?_ _)); exact BK295.out) hb); have n7_ := am (below_step (by repeat (first | (with_reducible first | exact HB.out | apply below_alloc | apply pw_below_drewN | apply below_drew1 | refine below_set ?_ GE295.out) | exact HB.out)) hb); clear HO_3; clear HO_5; clear HO_296001; clear HO_296002; clear HO_296003; clear BK295; clear HB; have HO_3 := n0_; have HO_5 := n1_; have HO_296001 := n2_; have HO_296002 := n3_; have HO_296003 := n4_; have HO321 := n5_; have BK295 := n6_; have HB := n7_; clear n0_ n1_ n2_ n3_ n4_ n5_ n6_ n7_; clear hb ho41; obtain ⟨Ao42, co42, eo42⟩ := Kd.N_slice HO321.out; subst eo42) | ((with_reducible refine gate_callee (f := 42) rfl ?_); refine goesL_ (some 72) rfl rfl Try.func42 (by kernel_rfl) rfl #[.slice Ao42 y319.length co42] rfl (by (try simp only [List.map_toArray, List.map_cons, List.map_nil]); first | done | rfl | (simp only [List.length_drop, List.length_take]; rfl)) ?_; (with_reducible refine (sennitref07_Normal.calls k3 (fun k_ => (((P0_1_ k_ ∨ P0_2_ k_ ∨ P0_3_ k_) ∨ w.heap.size ≤ k_) ∧ (some k_ ≠ (u5 : Value).ownBlock ∧ k_ ≠ gb295))) _ _ y319 t322 _ ?side1 A38.out).mono ?_); (case side1 => exact Kd.N_V (HO321.out)); rintro e w43 ⟨v323, rfl, ho0, hb⟩; refine ⟨_, rfl, ?_⟩; have n0_ := am (Kd.V_elder' (by (with_reducible repeat (first | apply vA | apply vN | apply vD)); exact HO_3.out) (Kd.N_base ho0) hb); have n1_ := am (Kd.N_elder' (by (with_reducible repeat (first | apply nA | apply nN | apply nD)); exact HO_5.out) (Kd.N_base ho0) hb); have n2_ := am (Kd.V_elder' (by (with_reducible repeat (first | apply vA | apply vN | apply vD)); exact HO_296001.out) (Kd.N_base ho0) hb); have n3_ := am (Kd.V_elder' (by (with_reducible repeat (first | apply vA | apply vN | apply vD)); exact HO_296002.out) (Kd.N_base ho0) hb); have n4_ := am (Kd.V_elder' (by (with_reducible repeat (first | apply vA | apply vN | apply vD)); exact HO_296003.out) (Kd.N_base ho0) hb); have n5_ := am (Kd.N_elder' (by (with_reducible repeat (first | apply nA | apply nN | apply nD)); exact HO321.out) (Kd.N_base ho0) hb); have n6_ := am (Kd.N_lower (Kd.N_mono (ok' := fun k_ => ((P0_1_ k_ ∨ P0_2_ k_ ∨ P0_3_ k_) ∨ w.heap.size ≤ k_) ∧ some k_ ≠ (u5 : Value).ownBlock ∧ k_ ≠ gb295) ho0 (fun k_ hk_ => ⟨Or.elim hk_ (fun hs_ => hs_.1) (fun hn_ => (.inr (Nat.le_trans (below_size (by repeat (first | (with_reducible first | exact HB.out | apply below_alloc | apply pw_below_drewN | apply below_drew1 | refine below_set ?_ GE295.out) | exact HB.out))) hn_))), Or.elim hk_ (fun hs_ => hs_.2.1) (fun hn_ => (Kd.fresh' (Kd.N_lt (by (with_reducible repeat (first | apply nA | apply nN | apply nD)); exact HO_5.out)) k_ hn_)), Or.elim hk_ (fun hs_ => hs_.2.2) (fun hn_ => (Kd.freshB (g := gb295) (o := .cells #[.bool a0_0, .slice A0_1 l0_1.length c0_1, .slice A0_2 l0_2.length c0_2, .slice (some ad302) l0_3.length c0_3] 27 (0, 0)) (by (with_reducible repeat (first | refine blk_drewN ?_ _ | refine blk_drew ?_ | refine blk_alloc ?_ _)); exact BK295.out) k_ hn_))⟩)) (below_size (by repeat (first | (with_reducible first | exact HB.out | apply below_alloc | apply pw_below_drewN | apply below_drew1 | refine below_set ?_ GE295.out) | exact HB.out)))); have n7_ := am (blk_below (g := gb295) (o := .cells #[.bool a0_0, .slice A0_1 l0_1.length c0_1, .slice A0_2 l0_2.length c0_2, .slice (some ad302) l0_3.length c0_3] 27 (0, 0)) (by (with_reducible repeat (first | refine blk_drewN ?_ _ | refine blk_drew ?_ | refine blk_alloc ?_ _)); exact BK295.out) hb); have n8_ := am (below_step (by repeat (first | (with_reducible first | exact HB.out | apply below_alloc | apply pw_below_drewN | apply below_drew1 | refine below_set ?_ GE295.out) | exact HB.out)) hb); clear HO_3; clear HO_5; clear HO_296001; clear HO_296002; clear HO_296003; clear HO321; clear BK295; clear HB; have HO_3 := n0_; have HO_5 := n1_; have HO_296001 := n2_; have HO_296002 := n3_; have HO_296003 := n4_; have HO321 := n5_; have HO324 := n6_; have BK295 := n7_; have HB := n8_; clear n0_ n1_ n2_ n3_ n4_ n5_ n6_ n7_ n8_; (try clear hb); (try clear hb2); (try clear hk); (try clear hi); (try clear ho0)))
            go_ret
            exact ⟨_, by first | rfl | (simp [errW_none, errW_some] <;> rfl) | (simp [*, errW_none, errW_some] <;> rfl), by (with_reducible repeat (first | apply nA | apply nN | apply nD)); exact Kd.N_mono HO324.out (fun _ hk => hk.1), by repeat (first | (with_reducible first | exact HB.out | apply below_alloc | apply pw_below_drewN | apply below_drew1 | refine below_set ?_ GE295.out) | exact HB.out)⟩
           ·replace c37 := Bool.eq_false_iff.mpr c37
            subst c37
            have H1 : (sennitref10_Trim.l2 k3 y303 x4_15 x5_3 0 a0_0 l0_1 l0_2 l0_3) = some r := by rw [if_neg (show ¬ (false = true) by decide)] at H; exact H
            clear H
            have H := H1
            clear H1
            have HC44 := am H
            clear H
            have hcz45_0 : wr.cell? ⟨gb295, 0, none⟩ = some (.bool a0_0) := (blk_cell BK295.out 0).trans rfl
            have hcz45_1 : wr.cell? ⟨gb295, 1, none⟩ = some (.slice A0_1 l0_1.length c0_1) := (blk_cell BK295.out 1).trans rfl
            have hcz45_2 : wr.cell? ⟨gb295, 2, none⟩ = some (.slice A0_2 l0_2.length c0_2) := (blk_cell BK295.out 2).trans rfl
            have hcz45_3 : wr.cell? ⟨gb295, 3, none⟩ = some (.slice (some ad302) l0_3.length c0_3) := (blk_cell BK295.out 3).trans rfl
            have hfz45_0 := blk_frozen BK295.out 0
            have hfz45_1 := blk_frozen BK295.out 1
            have hfz45_2 := blk_frozen BK295.out 2
            have hfz45_3 := blk_frozen BK295.out 3
            go_upto_block 4 with (fail)
            go_cut [8] (fun v8 wc => ∃ (kq : Nat) (x8_43 : Int), v8 = .int .i64 x8_43 ∧ Aside0 (sennitref10_Trim.j5 kq y303 x4_15 x5_3 x8_43 a0_0 l0_1 l0_2 l0_3 = some r) ∧ Aside0 (kq ≤ k3) ∧ Aside0 (Kd.V Kd.string 9 wc w.heap.size (fun k_ => ((P0_1_ k_ ∨ P0_2_ k_ ∨ P0_3_ k_) ∨ w.heap.size ≤ k_) ∧ some k_ ≠ (u5 : Value).ownBlock ∧ k_ ≠ gb295) (.slice A18 y303.length c18) y303) ∧ Aside0 (Kd.N (Kd.slice 9 Kd.string) 22 wc w.heap.size (fun k_ => ((P0_1_ k_ ∨ P0_2_ k_ ∨ P0_3_ k_) ∨ w.heap.size ≤ k_) ∧ k_ ≠ gb295) u5 x5_3) ∧ Aside0 (Kd.V Kd.string 9 wc w.heap.size (fun k_ => ((P0_1_ k_ ∨ P0_2_ k_ ∨ P0_3_ k_) ∨ w.heap.size ≤ k_) ∧ some k_ ≠ (u5 : Value).ownBlock ∧ k_ ≠ gb295) (.slice A0_1 l0_1.length c0_1) l0_1) ∧ Aside0 (Kd.V Kd.string 9 wc w.heap.size (fun k_ => ((P0_1_ k_ ∨ P0_2_ k_ ∨ P0_3_ k_) ∨ w.heap.size ≤ k_) ∧ some k_ ≠ (u5 : Value).ownBlock ∧ k_ ≠ gb295) (.slice A0_2 l0_2.length c0_2) l0_2) ∧ Aside0 (Kd.V (Kd.slice 9 Kd.string) 22 wc w.heap.size (fun k_ => ((P0_1_ k_ ∨ P0_2_ k_ ∨ P0_3_ k_) ∨ w.heap.size ≤ k_) ∧ some k_ ≠ (u5 : Value).ownBlock ∧ k_ ≠ gb295) (.slice (some ad302) l0_3.length c0_3) l0_3) ∧ Aside0 (wc.heap[gb295]? = some (.cells #[.bool a0_0, (.slice A0_1 l0_1.length c0_1), (.slice A0_2 l0_2.length c0_2), (.slice (some ad302) l0_3.length c0_3)] 27 (0, 0))) ∧ Aside0 (Below w.heap.size w wc))
            case first =>
             have H := HC44.out
             clear HC44
             have H' := am H
             clear H
             go_wp2
             go_loopg [8] k3 (fun kq v8 w' => ∃ (x8_4 : Int), v8 = .int .i64 x8_4 ∧ Aside0 (sennitref10_Trim.l2 kq y303 x4_15 x5_3 x8_4 a0_0 l0_1 l0_2 l0_3 = some r) ∧ Aside0 (kq ≤ k3) ∧ Aside0 (Kd.V Kd.string 9 w' w.heap.size (fun k_ => ((P0_1_ k_ ∨ P0_2_ k_ ∨ P0_3_ k_) ∨ w.heap.size ≤ k_) ∧ some k_ ≠ (u5 : Value).ownBlock ∧ k_ ≠ gb295) (.slice A18 y303.length c18) y303) ∧ Aside0 (Kd.N (Kd.slice 9 Kd.string) 22 w' w.heap.size (fun k_ => ((P0_1_ k_ ∨ P0_2_ k_ ∨ P0_3_ k_) ∨ w.heap.size ≤ k_) ∧ k_ ≠ gb295) u5 x5_3) ∧ Aside0 (Kd.V Kd.string 9 w' w.heap.size (fun k_ => ((P0_1_ k_ ∨ P0_2_ k_ ∨ P0_3_ k_) ∨ w.heap.size ≤ k_) ∧ some k_ ≠ (u5 : Value).ownBlock ∧ k_ ≠ gb295) (.slice A0_1 l0_1.length c0_1) l0_1) ∧ Aside0 (Kd.V Kd.string 9 w' w.heap.size (fun k_ => ((P0_1_ k_ ∨ P0_2_ k_ ∨ P0_3_ k_) ∨ w.heap.size ≤ k_) ∧ some k_ ≠ (u5 : Value).ownBlock ∧ k_ ≠ gb295) (.slice A0_2 l0_2.length c0_2) l0_2) ∧ Aside0 (Kd.V (Kd.slice 9 Kd.string) 22 w' w.heap.size (fun k_ => ((P0_1_ k_ ∨ P0_2_ k_ ∨ P0_3_ k_) ∨ w.heap.size ≤ k_) ∧ some k_ ≠ (u5 : Value).ownBlock ∧ k_ ≠ gb295) (.slice (some ad302) l0_3.length c0_3) l0_3) ∧ Aside0 (w'.heap[gb295]? = some (.cells #[.bool a0_0, (.slice A0_1 l0_1.length c0_1), (.slice A0_2 l0_2.length c0_2), (.slice (some ad302) l0_3.length c0_3)] 27 (0, 0))) ∧ Aside0 (Below w.heap.size w w'))
             case atStart => exact ⟨(0), (by first | rfl | (simp; done) | (simp [*]; done)), H', ⟨Nat.le_refl _⟩, ⟨by (with_reducible repeat (first | apply vA | apply vN | apply vD)); exact HO_3.out⟩, ⟨by (with_reducible repeat (first | apply nA | apply nN | apply nD)); exact HO_5.out⟩, ⟨by (with_reducible repeat (first | apply vA | apply vN | apply vD)); exact HO_296001.out⟩, ⟨by (with_reducible repeat (first | apply vA | apply vN | apply vD)); exact HO_296002.out⟩, ⟨by (with_reducible repeat (first | apply vA | apply vN | apply vD)); exact HO_296003.out⟩, ⟨by (with_reducible repeat (first | refine blk_drewN ?_ _ | refine blk_drew ?_ | refine blk_alloc ?_ _)); exact BK295.out⟩, ⟨by repeat (first | (with_reducible first | exact HB.out | apply below_alloc | apply pw_below_drewN | apply below_drew1 | refine below_set ?_ GE295.out) | exact HB.out)⟩⟩
             case round =>
              clear H'
              (try clear c1); (try clear q1); (try clear c2); (try clear p2); (try clear c3); (try clear p3); (try clear q3); (try clear hx3); (try clear qi3); (try clear c4); (try clear p6); (try clear c7); (try clear c14); (try clear c14b0); (try clear c14b1); (try clear c15); (try clear c15b0); (try clear c15b1); (try clear c18); (try clear q18); (try clear c19); (try clear c19b0); (try clear c21); (try clear c24); (try clear c24b0); (try clear c25); (try clear c25b0); (try clear c26); (try clear c26b0); (try clear c26b1); (try clear c27); (try clear c27b0); (try clear c27b1); (try clear c28); (try clear c29); (try clear c30); (try clear p30); (try clear q30); (try clear hx30); (try clear qi30); (try clear c31); (try clear p31); (try clear q31); (try clear hx31); (try clear c35); (try clear q35); (try clear c37); (try clear c42); (try clear hcz17_0); (try clear hcz17_1); (try clear hcz17_2); (try clear hcz17_3); (try clear hcz22_0); (try clear hcz22_1); (try clear hcz22_2); (try clear hcz22_3); (try clear hcz23_0); (try clear hcz23_1); (try clear hcz23_2); (try clear hcz23_3); (try clear hcz30_0); (try clear hcz30_1); (try clear hcz30_2); (try clear hcz30_3); (try clear hcz33_0); (try clear hcz33_1); (try clear hcz33_2); (try clear hcz33_3); (try clear hcz34_0); (try clear hcz34_1); (try clear hcz34_2); (try clear hcz34_3); (try clear hcz39_0); (try clear hcz39_1); (try clear hcz39_2); (try clear hcz39_3); (try clear hcz45_0); (try clear hcz45_1); (try clear hcz45_2); (try clear hcz45_3); (try clear hcz5_0); (try clear hcz5_1); (try clear hcz5_2); (try clear hcz5_3); (try clear hcz6_0); (try clear hcz6_1); (try clear hcz6_2); (try clear hcz6_3); (try clear hcz9_0); (try clear hcz9_1); (try clear hcz9_2); (try clear hcz9_3); (try clear hfz17_0); (try clear hfz17_1); (try clear hfz17_2); (try clear hfz17_3); (try clear hfz22_0); (try clear hfz22_1); (try clear hfz22_2); (try clear hfz22_3); (try clear hfz23_0); (try clear hfz23_1); (try clear hfz23_2); (try clear hfz23_3); (try clear hfz30_0); (try clear hfz30_1); (try clear hfz30_2); (try clear hfz30_3); (try clear hfz33_0); (try clear hfz33_1); (try clear hfz33_2); (try clear hfz33_3); (try clear hfz34_0); (try clear hfz34_1); (try clear hfz34_2); (try clear hfz34_3); (try clear hfz39_0); (try clear hfz39_1); (try clear hfz39_2); (try clear hfz39_3); (try clear hfz45_0); (try clear hfz45_1); (try clear hfz45_2); (try clear hfz45_3); (try clear hfz5_0); (try clear hfz5_1); (try clear hfz5_2); (try clear hfz5_3); (try clear hfz6_0); (try clear hfz6_1); (try clear hfz6_2); (try clear hfz6_3); (try clear hfz9_0); (try clear hfz9_1); (try clear hfz9_2); (try clear hfz9_3); (try clear hx302_0); (try clear hx309_0); (try clear hx318_0); (try clear p2); (try clear p3); (try clear p302); (try clear p309); (try clear p318); (try clear p6); (try clear q031); (try clear q035); (try clear q1); (try clear q18); (try clear q3); (try clear q302); (try clear q309); (try clear q31); (try clear q318); (try clear q35)
              obtain ⟨x8_4, rfl, HA, HK4, HO_3, HO_5, HO_296001, HO_296002, HO_296003, BK295, HB⟩ := hrel
              cases gk with
              | zero => exact absurd HA.out (by simp [sennitref10_Trim.l2])
              | succ k4 =>
               have H := HA.out
               clear HA
               simp only [sennitref10_Trim.l2] at H
               by_cases c46 : 0 < (x5_3.length : Int)
               ·rw [if_pos c46] at H
                have c46b0 : decide (0 < (x5_3.length : Int)) = true := decide_eq_true c46
                have c46b1 : decide (0 < x5_3.length) = true := decide_eq_true (by omega)
                clear c46
                (first | rw [c46b0] | (simp only [i64_w, i32_w]; rw [c46b0]) | skip)
                by_cases c47 : x8_4 < ((rd_L1 x5_3 0).length : Int)
                ·rw [if_pos c47] at H
                 have c47b0 : decide (x8_4 < ((rd_L1 x5_3 0).length : Int)) = true := decide_eq_true c47
                 clear c47
                 replace H := Option.bind_eq_some_iff.mp H
                 obtain ⟨t326, A480, H⟩ := H
                 replace H : (if t326 = true then (sennitref10_Trim.l2 k4 y303 x4_15 x5_3 (wrap64 (x8_4 + 1)) a0_0 l0_1 l0_2 l0_3) else (sennitref10_Trim.j5 k4 y303 x4_15 x5_3 x8_4 a0_0 l0_1 l0_2 l0_3)) = some r := H
                 have A48 := am A480
                 clear A480
                 by_cases c49 : t326 = true
                 ·subst c49
                  have H1 : (sennitref10_Trim.l2 k4 y303 x4_15 x5_3 (wrap64 (x8_4 + 1)) a0_0 l0_1 l0_2 l0_3) = some r := by rw [if_pos rfl] at H; exact H
                  clear H
                  have H := H1
                  clear H1
                  have H' := am H
                  clear H
                  obtain ⟨Ao50, co50, eo50⟩ := Kd.N_slice HO_5.out
                  subst eo50
                  have p325 : 0 ≤ (0 : Int) := (by omega)
                  have q325 : 0 < (x5_3.length : Int) := of_decide_eq_true (by first | (with_reducible assumption) | assumption)
                  obtain ⟨ad325, A325_0, c325_0, e325, hx325_0, hl325_0, hi325_0⟩ := at_L1 (Kd.N_reads' HO_5.out).2.2 0 p325 q325
                  cases e325
                  obtain ⟨ce325, hce325, hMe325, hcc325⟩ := Kd.N_get HO_5.out [] 0 p325 (by first | exact q325 | exact of_decide_eq_true (by first | (with_reducible assumption) | assumption) | (have e_ := (Kd.N_reads' HO_5.out).1; omega))
                  obtain ⟨ua325_0, uc325_0, rfl, ul325_0, ge325_0⟩ := Kd.FK_slice_open hMe325
                  have hv325_0 := hcc325 0 _ rfl
                  rw [Nat.add_zero, show ((Kd.slice 9 Kd.string)).sz = 1 from rfl, Nat.mul_one] at hv325_0
                  replace hv325_0 := Option.some.inj (hv325_0.symm.trans hx325_0)
                  injection hv325_0 with hva_ hvn_ hvc_
                  rw [hva_] at ge325_0
                  rw [hvc_] at ul325_0
                  have HL325_0 := am (show Kd.V Kd.string 9 _ w.heap.size _ _ (rd_L1 x5_3 0) from Kd.V_mk ul325_0 ge325_0)
                  clear hva_ hvn_ hvc_ ge325_0 ul325_0
                  clear hcc325 hce325
                  have qi325 : (0 < x5_3.length) = True := eq_true (by omega)
                  (try rw [show ((0 : Int)).toNat = 0 from rfl] at hx325_0)
                  (try rw [Addr.add_zero'] at hx325_0)
                  have HR325_0 := am hi325_0
                  have HC325_0 := am hl325_0
                  clear hi325_0 hl325_0
                  replace p325 := eq_true p325
                  replace q325 := eq_true q325
                  go_wp2_with (first | (go_at_call 63; (with_reducible refine (sennitref10_ends.calls k4 _ _ x5_3 (wrap64 (x8_4 + 1)) true _ ?side1 ?side2 A48.out).mono ?_); (case side1 => repeat (first | exact (Kd.N_reads' HO_5.out).2.2 | (with_reducible refine Kd.C_alloc ?_ _) | (with_reducible refine Kd.C_drewN ?_ _) | (with_reducible refine Kd.C_drew ?_))); (case side2 => exact (Kd.N_reads' HO_5.out).2.1); rintro e w51 ⟨rfl, hb⟩; have n0_ := am (Kd.V_below (by (with_reducible repeat (first | apply vA | apply vN | apply vD)); exact HO_3.out) hb); have n1_ := am (Kd.N_below (by (with_reducible repeat (first | apply nA | apply nN | apply nD)); exact HO_5.out) hb); have n2_ := am (Kd.V_below (by (with_reducible repeat (first | apply vA | apply vN | apply vD)); exact HO_296001.out) hb); have n3_ := am (Kd.V_below (by (with_reducible repeat (first | apply vA | apply vN | apply vD)); exact HO_296002.out) hb); have n4_ := am (Kd.V_below (by (with_reducible repeat (first | apply vA | apply vN | apply vD)); exact HO_296003.out) hb); have n5_ := am (Kd.V_below (by (with_reducible repeat (first | apply vA | apply vN | apply vD)); exact HL325_0.out) hb); have n6_ := am (blk_below (g := gb295) (o := .cells #[.bool a0_0, .slice A0_1 l0_1.length c0_1, .slice A0_2 l0_2.length c0_2, .slice (some ad302) l0_3.length c0_3] 27 (0, 0)) (by (with_reducible repeat (first | refine blk_drewN ?_ _ | refine blk_drew ?_ | refine blk_alloc ?_ _)); exact BK295.out) hb); have n7_ := am (Kd.C_below (by repeat (first | (with_reducible exact HR325_0.out) | (with_reducible refine Kd.C_alloc ?_ _) | (with_reducible refine Kd.C_drewN ?_ _) | (with_reducible refine Kd.C_drew ?_) | exact HR325_0.out)) hb); have n8_ := am (below_step (by repeat (first | (with_reducible first | exact HB.out | apply below_alloc | apply pw_below_drewN | apply below_drew1 | refine below_set ?_ GE295.out) | exact HB.out)) hb); clear HO_3; clear HO_5; clear HO_296001; clear HO_296002; clear HO_296003; clear HL325_0; clear BK295; clear HR325_0; clear HB; have HO_3 := n0_; have HO_5 := n1_; have HO_296001 := n2_; have HO_296002 := n3_; have HO_296003 := n4_; have HL325_0 := n5_; have BK295 := n6_; have HR325_0 := n7_; have HB := n8_; clear n0_ n1_ n2_ n3_ n4_ n5_ n6_ n7_ n8_; (try clear hb); (try clear hb2); (try clear hk); (try clear hi)))
                  go_roundg k4
                  case measure => have := HJ1.out; have := HJ15.out; have := HK3.out; have := HK4.out; omega
                  case rel => exact ⟨(wrap64 (x8_4 + 1)), (by first | rfl | (simp; done) | (simp [*]; done)), H', ⟨by have := HJ1.out; have := HJ15.out; have := HK3.out; have := HK4.out; omega⟩, ⟨by (with_reducible repeat (first | apply vA | apply vN | apply vD)); exact HO_3.out⟩, ⟨by (with_reducible repeat (first | apply nA | apply nN | apply nD)); exact HO_5.out⟩, ⟨by (with_reducible repeat (first | apply vA | apply vN | apply vD)); exact HO_296001.out⟩, ⟨by (with_reducible repeat (first | apply vA | apply vN | apply vD)); exact HO_296002.out⟩, ⟨by (with_reducible repeat (first | apply vA | apply vN | apply vD)); exact HO_296003.out⟩, ⟨by (with_reducible repeat (first | refine blk_drewN ?_ _ | refine blk_drew ?_ | refine blk_alloc ?_ _)); exact BK295.out⟩, ⟨by repeat (first | (with_reducible first | exact HB.out | apply below_alloc | apply pw_below_drewN | apply below_drew1 | refine below_set ?_ GE295.out) | exact HB.out)⟩⟩
                 ·replace c49 := Bool.eq_false_iff.mpr c49
                  subst c49
                  have H1 : (sennitref10_Trim.j5 k4 y303 x4_15 x5_3 x8_4 a0_0 l0_1 l0_2 l0_3) = some r := by rw [if_neg (show ¬ (false = true) by decide)] at H; exact H
                  clear H
                  have H := H1
                  clear H1
                  have H' := am H
                  clear H
                  obtain ⟨Ao52, co52, eo52⟩ := Kd.N_slice HO_5.out
                  subst eo52
                  have p325 : 0 ≤ (0 : Int) := (by omega)
                  have q325 : 0 < (x5_3.length : Int) := of_decide_eq_true (by first | (with_reducible assumption) | assumption)
                  obtain ⟨ad325, A325_0, c325_0, e325, hx325_0, hl325_0, hi325_0⟩ := at_L1 (Kd.N_reads' HO_5.out).2.2 0 p325 q325
                  cases e325
                  obtain ⟨ce325, hce325, hMe325, hcc325⟩ := Kd.N_get HO_5.out [] 0 p325 (by first | exact q325 | exact of_decide_eq_true (by first | (with_reducible assumption) | assumption) | (have e_ := (Kd.N_reads' HO_5.out).1; omega))
                  obtain ⟨ua325_0, uc325_0, rfl, ul325_0, ge325_0⟩ := Kd.FK_slice_open hMe325
                  have hv325_0 := hcc325 0 _ rfl
                  rw [Nat.add_zero, show ((Kd.slice 9 Kd.string)).sz = 1 from rfl, Nat.mul_one] at hv325_0
                  replace hv325_0 := Option.some.inj (hv325_0.symm.trans hx325_0)
                  injection hv325_0 with hva_ hvn_ hvc_
                  rw [hva_] at ge325_0
                  rw [hvc_] at ul325_0
                  have HL325_0 := am (show Kd.V Kd.string 9 _ w.heap.size _ _ (rd_L1 x5_3 0) from Kd.V_mk ul325_0 ge325_0)
                  clear hva_ hvn_ hvc_ ge325_0 ul325_0
                  clear hcc325 hce325
                  have qi325 : (0 < x5_3.length) = True := eq_true (by omega)
                  (try rw [show ((0 : Int)).toNat = 0 from rfl] at hx325_0)
                  (try rw [Addr.add_zero'] at hx325_0)
                  have HR325_0 := am hi325_0
                  have HC325_0 := am hl325_0
                  clear hi325_0 hl325_0
                  replace p325 := eq_true p325
                  replace q325 := eq_true q325
                  go_wp2_with (first | (go_at_call 63; (with_reducible refine (sennitref10_ends.calls k4 _ _ x5_3 (wrap64 (x8_4 + 1)) false _ ?side1 ?side2 A48.out).mono ?_); (case side1 => repeat (first | exact (Kd.N_reads' HO_5.out).2.2 | (with_reducible refine Kd.C_alloc ?_ _) | (with_reducible refine Kd.C_drewN ?_ _) | (with_reducible refine Kd.C_drew ?_))); (case side2 => exact (Kd.N_reads' HO_5.out).2.1); rintro e w53 ⟨rfl, hb⟩; have n0_ := am (Kd.V_below (by (with_reducible repeat (first | apply vA | apply vN | apply vD)); exact HO_3.out) hb); have n1_ := am (Kd.N_below (by (with_reducible repeat (first | apply nA | apply nN | apply nD)); exact HO_5.out) hb); have n2_ := am (Kd.V_below (by (with_reducible repeat (first | apply vA | apply vN | apply vD)); exact HO_296001.out) hb); have n3_ := am (Kd.V_below (by (with_reducible repeat (first | apply vA | apply vN | apply vD)); exact HO_296002.out) hb); have n4_ := am (Kd.V_below (by (with_reducible repeat (first | apply vA | apply vN | apply vD)); exact HO_296003.out) hb); have n5_ := am (Kd.V_below (by (with_reducible repeat (first | apply vA | apply vN | apply vD)); exact HL325_0.out) hb); have n6_ := am (blk_below (g := gb295) (o := .cells #[.bool a0_0, .slice A0_1 l0_1.length c0_1, .slice A0_2 l0_2.length c0_2, .slice (some ad302) l0_3.length c0_3] 27 (0, 0)) (by (with_reducible repeat (first | refine blk_drewN ?_ _ | refine blk_drew ?_ | refine blk_alloc ?_ _)); exact BK295.out) hb); have n7_ := am (Kd.C_below (by repeat (first | (with_reducible exact HR325_0.out) | (with_reducible refine Kd.C_alloc ?_ _) | (with_reducible refine Kd.C_drewN ?_ _) | (with_reducible refine Kd.C_drew ?_) | exact HR325_0.out)) hb); have n8_ := am (below_step (by repeat (first | (with_reducible first | exact HB.out | apply below_alloc | apply pw_below_drewN | apply below_drew1 | refine below_set ?_ GE295.out) | exact HB.out)) hb); clear HO_3; clear HO_5; clear HO_296001; clear HO_296002; clear HO_296003; clear HL325_0; clear BK295; clear HR325_0; clear HB; have HO_3 := n0_; have HO_5 := n1_; have HO_296001 := n2_; have HO_296002 := n3_; have HO_296003 := n4_; have HL325_0 := n5_; have BK295 := n6_; have HR325_0 := n7_; have HB := n8_; clear n0_ n1_ n2_ n3_ n4_ n5_ n6_ n7_ n8_; (try clear hb); (try clear hb2); (try clear hk); (try clear hi)))
                  go_meet
                  case rel => exact ⟨_, (x8_4), (by first | rfl | (simp; done) | (simp [*]; done)), H', ⟨by have := HJ1.out; have := HJ15.out; have := HK3.out; have := HK4.out; first | omega | exact Nat.le_refl _⟩, ⟨by (with_reducible repeat (first | apply vA | apply vN | apply vD)); exact HO_3.out⟩, ⟨by (with_reducible repeat (first | apply nA | apply nN | apply nD)); exact HO_5.out⟩, ⟨by (with_reducible repeat (first | apply vA | apply vN | apply vD)); exact HO_296001.out⟩, ⟨by (with_reducible repeat (first | apply vA | apply vN | apply vD)); exact HO_296002.out⟩, ⟨by (with_reducible repeat (first | apply vA | apply vN | apply vD)); exact HO_296003.out⟩, ⟨by (with_reducible repeat (first | refine blk_drewN ?_ _ | refine blk_drew ?_ | refine blk_alloc ?_ _)); exact BK295.out⟩, ⟨by repeat (first | (with_reducible first | exact HB.out | apply below_alloc | apply pw_below_drewN | apply below_drew1 | refine below_set ?_ GE295.out) | exact HB.out)⟩⟩
                ·rw [if_neg c47] at H
                 have c47b0 : decide (x8_4 < ((rd_L1 x5_3 0).length : Int)) = false := decide_eq_false c47
                 clear c47
                 have H' := am H
                 clear H
                 obtain ⟨Ao54, co54, eo54⟩ := Kd.N_slice HO_5.out
                 subst eo54
                 have p325 : 0 ≤ (0 : Int) := (by omega)
                 have q325 : 0 < (x5_3.length : Int) := of_decide_eq_true (by first | (with_reducible assumption) | assumption)
                 obtain ⟨ad325, A325_0, c325_0, e325, hx325_0, hl325_0, hi325_0⟩ := at_L1 (Kd.N_reads' HO_5.out).2.2 0 p325 q325
                 cases e325
                 obtain ⟨ce325, hce325, hMe325, hcc325⟩ := Kd.N_get HO_5.out [] 0 p325 (by first | exact q325 | exact of_decide_eq_true (by first | (with_reducible assumption) | assumption) | (have e_ := (Kd.N_reads' HO_5.out).1; omega))
                 obtain ⟨ua325_0, uc325_0, rfl, ul325_0, ge325_0⟩ := Kd.FK_slice_open hMe325
                 have hv325_0 := hcc325 0 _ rfl
                 rw [Nat.add_zero, show ((Kd.slice 9 Kd.string)).sz = 1 from rfl, Nat.mul_one] at hv325_0
                 replace hv325_0 := Option.some.inj (hv325_0.symm.trans hx325_0)
                 injection hv325_0 with hva_ hvn_ hvc_
                 rw [hva_] at ge325_0
                 rw [hvc_] at ul325_0
                 have HL325_0 := am (show Kd.V Kd.string 9 _ w.heap.size _ _ (rd_L1 x5_3 0) from Kd.V_mk ul325_0 ge325_0)
                 clear hva_ hvn_ hvc_ ge325_0 ul325_0
                 clear hcc325 hce325
                 have qi325 : (0 < x5_3.length) = True := eq_true (by omega)
                 (try rw [show ((0 : Int)).toNat = 0 from rfl] at hx325_0)
                 (try rw [Addr.add_zero'] at hx325_0)
                 have HR325_0 := am hi325_0
                 have HC325_0 := am hl325_0
                 clear hi325_0 hl325_0
                 replace p325 := eq_true p325
                 replace q325 := eq_true q325
                 go_wp2
                 go_meet
                 case rel => exact ⟨_, (x8_4), (by first | rfl | (simp; done) | (simp [*]; done)), H', ⟨by have := HJ1.out; have := HJ15.out; have := HK3.out; have := HK4.out; first | omega | exact Nat.le_refl _⟩, ⟨by (with_reducible repeat (first | apply vA | apply vN | apply vD)); exact HO_3.out⟩, ⟨by (with_reducible repeat (first | apply nA | apply nN | apply nD)); exact HO_5.out⟩, ⟨by (with_reducible repeat (first | apply vA | apply vN | apply vD)); exact HO_296001.out⟩, ⟨by (with_reducible repeat (first | apply vA | apply vN | apply vD)); exact HO_296002.out⟩, ⟨by (with_reducible repeat (first | apply vA | apply vN | apply vD)); exact HO_296003.out⟩, ⟨by (with_reducible repeat (first | refine blk_drewN ?_ _ | refine blk_drew ?_ | refine blk_alloc ?_ _)); exact BK295.out⟩, ⟨by repeat (first | (with_reducible first | exact HB.out | apply below_alloc | apply pw_below_drewN | apply below_drew1 | refine below_set ?_ GE295.out) | exact HB.out)⟩⟩
               ·rw [if_neg c46] at H
                exact absurd H (by simp)
            case rest =>
             clear HC44
             (try clear c1); (try clear q1); (try clear c2); (try clear p2); (try clear c3); (try clear p3); (try clear q3); (try clear hx3); (try clear qi3); (try clear c4); (try clear p6); (try clear c7); (try clear c14); (try clear c14b0); (try clear c14b1); (try clear c15); (try clear c15b0); (try clear c15b1); (try clear c18); (try clear q18); (try clear c19); (try clear c19b0); (try clear c21); (try clear c24); (try clear c24b0); (try clear c25); (try clear c25b0); (try clear c26); (try clear c26b0); (try clear c26b1); (try clear c27); (try clear c27b0); (try clear c27b1); (try clear c28); (try clear c29); (try clear c30); (try clear p30); (try clear q30); (try clear hx30); (try clear qi30); (try clear c31); (try clear p31); (try clear q31); (try clear hx31); (try clear c32); (try clear p32); (try clear q32); (try clear hx32); (try clear qi32); (try clear c35); (try clear q35); (try clear c37); (try clear c42); (try clear c46); (try clear c46b0); (try clear c46b1); (try clear c47); (try clear c47b0); (try clear c49); (try clear hcz17_0); (try clear hcz17_1); (try clear hcz17_2); (try clear hcz17_3); (try clear hcz22_0); (try clear hcz22_1); (try clear hcz22_2); (try clear hcz22_3); (try clear hcz23_0); (try clear hcz23_1); (try clear hcz23_2); (try clear hcz23_3); (try clear hcz30_0); (try clear hcz30_1); (try clear hcz30_2); (try clear hcz30_3); (try clear hcz33_0); (try clear hcz33_1); (try clear hcz33_2); (try clear hcz33_3); (try clear hcz34_0); (try clear hcz34_1); (try clear hcz34_2); (try clear hcz34_3); (try clear hcz39_0); (try clear hcz39_1); (try clear hcz39_2); (try clear hcz39_3); (try clear hcz45_0); (try clear hcz45_1); (try clear hcz45_2); (try clear hcz45_3); (try clear hcz5_0); (try clear hcz5_1); (try clear hcz5_2); (try clear hcz5_3); (try clear hcz6_0); (try clear hcz6_1); (try clear hcz6_2); (try clear hcz6_3); (try clear hcz9_0); (try clear hcz9_1); (try clear hcz9_2); (try clear hcz9_3); (try clear hfz17_0); (try clear hfz17_1); (try clear hfz17_2); (try clear hfz17_3); (try clear hfz22_0); (try clear hfz22_1); (try clear hfz22_2); (try clear hfz22_3); (try clear hfz23_0); (try clear hfz23_1); (try clear hfz23_2); (try clear hfz23_3); (try clear hfz30_0); (try clear hfz30_1); (try clear hfz30_2); (try clear hfz30_3); (try clear hfz33_0); (try clear hfz33_1); (try clear hfz33_2); (try clear hfz33_3); (try clear hfz34_0); (try clear hfz34_1); (try clear hfz34_2); (try clear hfz34_3); (try clear hfz39_0); (try clear hfz39_1); (try clear hfz39_2); (try clear hfz39_3); (try clear hfz45_0); (try clear hfz45_1); (try clear hfz45_2); (try clear hfz45_3); (try clear hfz5_0); (try clear hfz5_1); (try clear hfz5_2); (try clear hfz5_3); (try clear hfz6_0); (try clear hfz6_1); (try clear hfz6_2); (try clear hfz6_3); (try clear hfz9_0); (try clear hfz9_1); (try clear hfz9_2); (try clear hfz9_3); (try clear hx302_0); (try clear hx309_0); (try clear hx318_0); (try clear hx325_0); (try clear p2); (try clear p3); (try clear p30); (try clear p302); (try clear p309); (try clear p31); (try clear p318); (try clear p325); (try clear p6); (try clear q031); (try clear q035); (try clear q1); (try clear q18); (try clear q3); (try clear q30); (try clear q302); (try clear q309); (try clear q31); (try clear q318); (try clear q325); (try clear q35)
             obtain ⟨kq, x8_43, rfl, HA, HJ43, HO_3, HO_5, HO_296001, HO_296002, HO_296003, BK295, HB⟩ := hcut
             cases kq with
             | zero => exact absurd HA.out (by simp [sennitref10_Trim.j5])
             | succ kj43 =>
              have H := HA.out
              clear HA
              simp only [sennitref10_Trim.j5] at H
              have H' := am H
              clear H
              go_wp2
              go_loopg [9, 10] kj43 (fun kq v9 v10 w' => ∃ (x9_5 : List (List ByteArray)) (x10_5 : Int), v10 = .int .i64 x10_5 ∧ Aside0 (sennitref10_Trim.l3 kq y303 x4_15 x5_3 x8_43 x9_5 x10_5 a0_0 l0_1 l0_2 l0_3 = some r) ∧ Aside0 (kq ≤ kj43) ∧ Aside0 (Kd.V Kd.string 9 w' w.heap.size (fun k_ => ((P0_1_ k_ ∨ P0_2_ k_ ∨ P0_3_ k_) ∨ w.heap.size ≤ k_) ∧ some k_ ≠ (u5 : Value).ownBlock ∧ some k_ ≠ (v9 : Value).ownBlock ∧ k_ ≠ gb295) (.slice A18 y303.length c18) y303) ∧ Aside0 (Kd.N (Kd.slice 9 Kd.string) 22 w' w.heap.size (fun k_ => ((P0_1_ k_ ∨ P0_2_ k_ ∨ P0_3_ k_) ∨ w.heap.size ≤ k_) ∧ some k_ ≠ (v9 : Value).ownBlock ∧ k_ ≠ gb295) u5 x5_3) ∧ Aside0 (Kd.N (Kd.slice 9 Kd.string) 22 w' w.heap.size (fun k_ => ((P0_1_ k_ ∨ P0_2_ k_ ∨ P0_3_ k_) ∨ w.heap.size ≤ k_) ∧ some k_ ≠ (u5 : Value).ownBlock ∧ k_ ≠ gb295) v9 x9_5) ∧ Aside0 (Kd.V Kd.string 9 w' w.heap.size (fun k_ => ((P0_1_ k_ ∨ P0_2_ k_ ∨ P0_3_ k_) ∨ w.heap.size ≤ k_) ∧ some k_ ≠ (u5 : Value).ownBlock ∧ some k_ ≠ (v9 : Value).ownBlock ∧ k_ ≠ gb295) (.slice A0_1 l0_1.length c0_1) l0_1) ∧ Aside0 (Kd.V Kd.string 9 w' w.heap.size (fun k_ => ((P0_1_ k_ ∨ P0_2_ k_ ∨ P0_3_ k_) ∨ w.heap.size ≤ k_) ∧ some k_ ≠ (u5 : Value).ownBlock ∧ some k_ ≠ (v9 : Value).ownBlock ∧ k_ ≠ gb295) (.slice A0_2 l0_2.length c0_2) l0_2) ∧ Aside0 (Kd.V (Kd.slice 9 Kd.string) 22 w' w.heap.size (fun k_ => ((P0_1_ k_ ∨ P0_2_ k_ ∨ P0_3_ k_) ∨ w.heap.size ≤ k_) ∧ some k_ ≠ (u5 : Value).ownBlock ∧ some k_ ≠ (v9 : Value).ownBlock ∧ k_ ≠ gb295) (.slice (some ad302) l0_3.length c0_3) l0_3) ∧ Aside0 (w'.heap[gb295]? = some (.cells #[.bool a0_0, (.slice A0_1 l0_1.length c0_1), (.slice A0_2 l0_2.length c0_2), (.slice (some ad302) l0_3.length c0_3)] 27 (0, 0))) ∧ Aside0 (Below w.heap.size w w'))
              case atStart => exact ⟨(([] : List (List ByteArray))), (0), (by first | rfl | (simp; done) | (simp [*]; done)), H', ⟨Nat.le_refl _⟩, ⟨by (with_reducible repeat (first | apply vA | apply vN | apply vD)); exact Kd.V_mono HO_3.out (fun _ hk => ⟨hk.1, ⟨hk.2.1, ⟨(by simp [Value.ownBlock]), hk.2.2⟩⟩⟩)⟩, ⟨by (with_reducible repeat (first | apply nA | apply nN | apply nD)); exact Kd.N_mono HO_5.out (fun _ hk => ⟨hk.1, ⟨(by simp [Value.ownBlock]), hk.2⟩⟩)⟩, ⟨by first | exact Kd.S_nil _ _ _ _ _ | exact Kd.N_nil _ _ _ _ _ | exact Kd.V_nil _ _ _ _ _ | exact Kd.Q_nil _ _ _ _ _ | exact Kd.R_nil _ _ _ _ _⟩, ⟨by (with_reducible repeat (first | apply vA | apply vN | apply vD)); exact Kd.V_mono HO_296001.out (fun _ hk => ⟨hk.1, ⟨hk.2.1, ⟨(by simp [Value.ownBlock]), hk.2.2⟩⟩⟩)⟩, ⟨by (with_reducible repeat (first | apply vA | apply vN | apply vD)); exact Kd.V_mono HO_296002.out (fun _ hk => ⟨hk.1, ⟨hk.2.1, ⟨(by simp [Value.ownBlock]), hk.2.2⟩⟩⟩)⟩, ⟨by (with_reducible repeat (first | apply vA | apply vN | apply vD)); exact Kd.V_mono HO_296003.out (fun _ hk => ⟨hk.1, ⟨hk.2.1, ⟨(by simp [Value.ownBlock]), hk.2.2⟩⟩⟩)⟩, ⟨by (with_reducible repeat (first | refine blk_drewN ?_ _ | refine blk_drew ?_ | refine blk_alloc ?_ _)); exact BK295.out⟩, ⟨by repeat (first | (with_reducible first | exact HB.out | apply below_alloc | apply pw_below_drewN | apply below_drew1 | refine below_set ?_ GE295.out) | exact HB.out)⟩⟩
              case round =>
               clear H'
               (try clear c1); (try clear q1); (try clear c2); (try clear p2); (try clear c3); (try clear p3); (try clear q3); (try clear hx3); (try clear qi3); (try clear c4); (try clear p6); (try clear c7); (try clear c14); (try clear c14b0); (try clear c14b1); (try clear c15); (try clear c15b0); (try clear c15b1); (try clear c18); (try clear q18); (try clear c19); (try clear c19b0); (try clear c21); (try clear c24); (try clear c24b0); (try clear c25); (try clear c25b0); (try clear c26); (try clear c26b0); (try clear c26b1); (try clear c27); (try clear c27b0); (try clear c27b1); (try clear c28); (try clear c29); (try clear c30); (try clear p30); (try clear q30); (try clear hx30); (try clear qi30); (try clear c31); (try clear p31); (try clear q31); (try clear hx31); (try clear c32); (try clear p32); (try clear q32); (try clear hx32); (try clear qi32); (try clear c35); (try clear q35); (try clear c37); (try clear c42); (try clear c46); (try clear c46b0); (try clear c46b1); (try clear c47); (try clear c47b0); (try clear c49); (try clear hcz17_0); (try clear hcz17_1); (try clear hcz17_2); (try clear hcz17_3); (try clear hcz22_0); (try clear hcz22_1); (try clear hcz22_2); (try clear hcz22_3); (try clear hcz23_0); (try clear hcz23_1); (try clear hcz23_2); (try clear hcz23_3); (try clear hcz30_0); (try clear hcz30_1); (try clear hcz30_2); (try clear hcz30_3); (try clear hcz33_0); (try clear hcz33_1); (try clear hcz33_2); (try clear hcz33_3); (try clear hcz34_0); (try clear hcz34_1); (try clear hcz34_2); (try clear hcz34_3); (try clear hcz39_0); (try clear hcz39_1); (try clear hcz39_2); (try clear hcz39_3); (try clear hcz45_0); (try clear hcz45_1); (try clear hcz45_2); (try clear hcz45_3); (try clear hcz5_0); (try clear hcz5_1); (try clear hcz5_2); (try clear hcz5_3); (try clear hcz6_0); (try clear hcz6_1); (try clear hcz6_2); (try clear hcz6_3); (try clear hcz9_0); (try clear hcz9_1); (try clear hcz9_2); (try clear hcz9_3); (try clear hfz17_0); (try clear hfz17_1); (try clear hfz17_2); (try clear hfz17_3); (try clear hfz22_0); (try clear hfz22_1); (try clear hfz22_2); (try clear hfz22_3); (try clear hfz23_0); (try clear hfz23_1); (try clear hfz23_2); (try clear hfz23_3); (try clear hfz30_0); (try clear hfz30_1); (try clear hfz30_2); (try clear hfz30_3); (try clear hfz33_0); (try clear hfz33_1); (try clear hfz33_2); (try clear hfz33_3); (try clear hfz34_0); (try clear hfz34_1); (try clear hfz34_2); (try clear hfz34_3); (try clear hfz39_0); (try clear hfz39_1); (try clear hfz39_2); (try clear hfz39_3); (try clear hfz45_0); (try clear hfz45_1); (try clear hfz45_2); (try clear hfz45_3); (try clear hfz5_0); (try clear hfz5_1); (try clear hfz5_2); (try clear hfz5_3); (try clear hfz6_0); (try clear hfz6_1); (try clear hfz6_2); (try clear hfz6_3); (try clear hfz9_0); (try clear hfz9_1); (try clear hfz9_2); (try clear hfz9_3); (try clear hx302_0); (try clear hx309_0); (try clear hx318_0); (try clear hx325_0); (try clear p2); (try clear p3); (try clear p30); (try clear p302); (try clear p309); (try clear p31); (try clear p318); (try clear p32); (try clear p325); (try clear p6); (try clear q031); (try clear q035); (try clear q1); (try clear q18); (try clear q3); (try clear q30); (try clear q302); (try clear q309); (try clear q31); (try clear q318); (try clear q32); (try clear q325); (try clear q35)
               obtain ⟨x9_5, x10_5, rfl, HA, HK5, HO_3, HO_5, HO_9, HO_296001, HO_296002, HO_296003, BK295, HB⟩ := hrel
               cases gk with
               | zero => exact absurd HA.out (by simp [sennitref10_Trim.l3])
               | succ k5 =>
                have H := HA.out
                clear HA
                simp only [sennitref10_Trim.l3] at H
                by_cases c55 : x10_5 < (x5_3.length : Int)
                ·rw [if_pos c55] at H
                 have c55b0 : decide (x10_5 < (x5_3.length : Int)) = true := decide_eq_true c55
                 clear c55
                 by_cases c56 : 0 ≤ x10_5
                 ·rw [if_pos c56] at H
                  have c56b0 : decide (0 ≤ x10_5) = true := decide_eq_true c56
                  clear c56
                  obtain ⟨ji57, hji57⟩ : ∃ j_ : Int, (wrap64 (((rd_L1 x5_3 x10_5).length : Int) - x8_43)) = j_ := ⟨_, rfl⟩
                  replace H : (if 0 ≤ (ji57) then (if (ji57) ≤ ((rd_L1 x5_3 x10_5).length : Int) then (if x9_5.length < 5864062014805 then (sennitref10_Trim.l3 k5 y303 x4_15 x5_3 x8_43 (x9_5 ++ [((rd_L1 x5_3 x10_5).take ((ji57) : Int).toNat)]) (wrap64 (x10_5 + 1)) a0_0 l0_1 l0_2 l0_3) else (none)) else (none)) else (none)) = some r := by first | (rw [hji57] at H; exact H) | (simp only [hji57] at H ⊢; exact H)
                  have hji57w : (IntKind.i64.wrap (((rd_L1 x5_3 x10_5).length : Int) - x8_43)) = ji57 := (i64_w _).trans hji57
                  by_cases c58 : 0 ≤ (ji57)
                  ·rw [if_pos c58] at H
                   have c58b0 := eq_true c58
                   have c58b1 : decide (0 ≤ (ji57)) = true := decide_eq_true c58
                   clear c58
                   by_cases c59 : (ji57) ≤ ((rd_L1 x5_3 x10_5).length : Int)
                   ·rw [if_pos c59] at H
                    have c59b0 := eq_true c59
                    have c59b1 : decide ((ji57) ≤ ((rd_L1 x5_3 x10_5).length : Int)) = true := decide_eq_true c59
                    clear c59
                    obtain ⟨y329, hy329⟩ : ∃ y_ : List ByteArray, y_ = ((rd_L1 x5_3 x10_5).take ((ji57) : Int).toNat) := ⟨_, rfl⟩
                    replace H : (if x9_5.length < 5864062014805 then (sennitref10_Trim.l3 k5 y303 x4_15 x5_3 x8_43 (x9_5 ++ [y329]) (wrap64 (x10_5 + 1)) a0_0 l0_1 l0_2 l0_3) else (none)) = some r := by first | (rw [hy329]; with_reducible exact H) | (have H2_ := (Option.bind_some _ _).symm.trans H; rw [hy329]; with_reducible exact H2_) | (have H2_ := (Option.bind_some _ _).symm.trans H; with_reducible exact H2_) | with_reducible exact H | (rw [hy329]; exact H) | exact H
                    have Ny329 := am hy329
                    clear hy329
                    by_cases c60 : x9_5.length < 5864062014805
                    ·rw [if_pos c60] at H
                     have LMc60 := am c60
                     clear c60
                     obtain ⟨y334, hy334⟩ : ∃ y_ : List (List ByteArray), y_ = (x9_5 ++ [y329]) := ⟨_, rfl⟩
                     replace H : (sennitref10_Trim.l3 k5 y303 x4_15 x5_3 x8_43 y334 (wrap64 (x10_5 + 1)) a0_0 l0_1 l0_2 l0_3) = some r := by first | (rw [hy334]; with_reducible exact H) | (have H2_ := (Option.bind_some _ _).symm.trans H; rw [hy334]; with_reducible exact H2_) | (have H2_ := (Option.bind_some _ _).symm.trans H; with_reducible exact H2_) | with_reducible exact H | (rw [hy334]; exact H) | exact H
                     have Ny334 := am hy334
                     clear hy334
                     have H' := am H
                     clear H
                     obtain ⟨Ao61, co61, eo61⟩ := Kd.N_slice HO_5.out
                     subst eo61
                     try go_wp2
                     have n0_ := am (Kd.V_drew HO_3.out)
                     have n1_ := am (Kd.N_drew HO_5.out)
                     have n2_ := am (Kd.N_drew HO_9.out)
                     have n3_ := am (Kd.V_drew HO_296001.out)
                     have n4_ := am (Kd.V_drew HO_296002.out)
                     have n5_ := am (Kd.V_drew HO_296003.out)
                     have n6_ := am (blk_drew BK295.out)
                     have n7_ := am (below_drew1 HB.out)
                     clear HO_3
                     clear HO_5
                     clear HO_9
                     clear HO_296001
                     clear HO_296002
                     clear HO_296003
                     clear BK295
                     clear HB
                     have HO_3 := n0_
                     have HO_5 := n1_
                     have HO_9 := n2_
                     have HO_296001 := n3_
                     have HO_296002 := n4_
                     have HO_296003 := n5_
                     have BK295 := n6_
                     have HB := n7_
                     clear n0_ n1_ n2_ n3_ n4_ n5_ n6_ n7_
                     have p327 : 0 ≤ (x10_5 : Int) := of_decide_eq_true (by first | (with_reducible assumption) | assumption)
                     have q327 : x10_5 < (x5_3.length : Int) := of_decide_eq_true (by first | (with_reducible assumption) | assumption)
                     obtain ⟨ad327, A327_0, c327_0, e327, hx327_0, hl327_0, hi327_0⟩ := at_L1 (Kd.N_reads' HO_5.out).2.2 x10_5 p327 q327
                     cases e327
                     obtain ⟨ce327, hce327, hMe327, hcc327⟩ := Kd.N_get HO_5.out [] x10_5 p327 (by first | exact q327 | exact of_decide_eq_true (by first | (with_reducible assumption) | assumption) | (have e_ := (Kd.N_reads' HO_5.out).1; omega))
                     obtain ⟨ua327_0, uc327_0, rfl, ul327_0, ge327_0⟩ := Kd.FK_slice_open hMe327
                     have hv327_0 := hcc327 0 _ rfl
                     rw [Nat.add_zero, show ((Kd.slice 9 Kd.string)).sz = 1 from rfl, Nat.mul_one] at hv327_0
                     replace hv327_0 := Option.some.inj (hv327_0.symm.trans hx327_0)
                     injection hv327_0 with hva_ hvn_ hvc_
                     rw [hva_] at ge327_0
                     rw [hvc_] at ul327_0
                     have HL327_0 := am (show Kd.V Kd.string 9 _ w.heap.size _ _ (rd_L1 x5_3 x10_5) from Kd.V_mk ul327_0 ge327_0)
                     clear hva_ hvn_ hvc_ ge327_0 ul327_0
                     clear hcc327 hce327
                     have HR327_0 := am hi327_0
                     have HC327_0 := am hl327_0
                     clear hi327_0 hl327_0
                     replace p327 := eq_true p327
                     replace q327 := eq_true q327
                     have p328 : 0 ≤ (x10_5 : Int) := of_decide_eq_true (by first | (with_reducible assumption) | assumption)
                     have q328 : x10_5 < (x5_3.length : Int) := of_decide_eq_true (by first | (with_reducible assumption) | assumption)
                     obtain ⟨ad328, A328_0, c328_0, e328, hx328_0, hl328_0, hi328_0⟩ := at_L1 (Kd.N_reads' HO_5.out).2.2 x10_5 p328 q328
                     obtain rfl : ad327 = ad328 := (by injection e328)
                     obtain ⟨ce328, hce328, hMe328, hcc328⟩ := Kd.N_get HO_5.out [] x10_5 p328 (by first | exact q328 | exact of_decide_eq_true (by first | (with_reducible assumption) | assumption) | (have e_ := (Kd.N_reads' HO_5.out).1; omega))
                     obtain ⟨ua328_0, uc328_0, rfl, ul328_0, ge328_0⟩ := Kd.FK_slice_open hMe328
                     have hv328_0 := hcc328 0 _ rfl
                     rw [Nat.add_zero, show ((Kd.slice 9 Kd.string)).sz = 1 from rfl, Nat.mul_one] at hv328_0
                     replace hv328_0 := Option.some.inj (hv328_0.symm.trans hx328_0)
                     injection hv328_0 with hva_ hvn_ hvc_
                     rw [hva_] at ge328_0
                     rw [hvc_] at ul328_0
                     have HL328_0 := am (show Kd.V Kd.string 9 _ w.heap.size _ _ (rd_L1 x5_3 x10_5) from Kd.V_mk ul328_0 ge328_0)
                     clear hva_ hvn_ hvc_ ge328_0 ul328_0
                     clear hcc328 hce328
                     have HR328_0 := am hi328_0
                     have HC328_0 := am hl328_0
                     clear hi328_0 hl328_0
                     replace p328 := eq_true p328
                     replace q328 := eq_true q328
                     have ea_ := Option.some.inj (hx327_0.symm.trans hx328_0)
                     injection ea_ with ea_ en_ ec_
                     subst ea_
                     subst ec_
                     clear en_
                     have q63 : ((ji57) : Int) ≤ (((rd_L1 x5_3 x10_5).length : Int) : Int) := of_decide_eq_true (by first | (with_reducible assumption) | assumption)
                     obtain ⟨i063, hi063, _, hsz63, _⟩ := info_parts info9
                     have hroom63 : (rd_L1 x5_3 x10_5).length ≤ c327_0 := HC327_0.out
                     have hC63 : Kd.F Kd.string _ _ A327_0 (rd_L1 x5_3 x10_5).length (rd_L1 x5_3 x10_5) := (Kd.V_at (base := w.heap.size) HL327_0.out).2.2
                     have hcut63 := cut_to (P := Try.prog) 22 9 .i64 Try.underlying22 hi063 A327_0 (rd_L1 x5_3 x10_5).length c327_0 (ji57) (of_decide_eq_true (by first | (with_reducible assumption) | assumption)) q63 hroom63
                     have hr63 := Kd.F_take (m := ((ji57) : Int).toNat) hC63 (by omega)
                     have hy63 : y329.length = ((ji57) : Int).toNat := (by rw [Ny329.out, List.length_take]; omega)
                     rw [← Ny329.out] at hr63
                     rw [← hy63] at hcut63
                     have HO333 := am (show Kd.V Kd.string 9 _ w.heap.size _ (.slice A327_0 y329.length c327_0) y329 from Kd.V_mk (by omega) hr63)
                     have HC333 := am (show y329.length ≤ c327_0 from by omega)
                     clear hr63 hC63 hroom63 hi063 hsz63
                     have KY63 := am hy63
                     clear hy63
                     replace q63 := eq_true q63
                     refine start_ (n := 16) (S := fun w' => w'.cell? (ad327.add (x10_5).toNat) = some (.slice A327_0 (rd_L1 x5_3 x10_5).length c327_0) ∧ w'.cell? (ad327.add (x10_5).toNat) = some (.slice A327_0 (rd_L1 x5_3 x10_5).length c327_0)) (ds := [13]) #[false, false, false, false, false, false, false, false, false, false, false, false, false, false, false, false] (by kernel_rfl) rfl rfl ⟨hx327_0, hx328_0⟩ (fun hHeld => ?_); refine with_tabW sennitref10_Trim.tab23 sennitref10_Trim.bits23 (fun HT_ HW_ => ?_)
                     generalize wr.drew = w62 at HO_3 HO_5 HO_9 HO_296001 HO_296002 HO_296003 BK295 HB HL327_0 HL328_0 HO333 HR327_0 HR328_0 hx327_0 hx328_0 hHeld ⊢
                     refine pure_ (i := 0) (N := some 93) (v := ?_) (a' := ?_) #[true, false, false, false, false, false, false, false, false, false, false, false, false, false, false, false] rfl rfl (any_of HT_.out (by kernel_rfl)) (fun _ _ _ h => h) (Or.inl ⟨by rfl, ?_⟩) ?_ ?_
                     rotate_left
                     ·intro w'
                      go_simp
                      with_reducible rfl
                     rotate_left
                     ·simp only [Act.put, List.setIfInBounds_toArray, List.set_cons_zero, List.set_cons_succ, i64_w, i32_w]
                      rfl
                     refine pure_ (i := 1) (N := some 94) (v := ?_) (a' := ?_) #[true, true, false, false, false, false, false, false, false, false, false, false, false, false, false, false] rfl rfl (any_of HT_.out (by kernel_rfl)) (fun _ _ _ h => h) (Or.inl ⟨by rfl, ?_⟩) ?_ ?_
                     rotate_left
                     ·intro w'
                      go_simp
                      with_reducible rfl
                     rotate_left
                     ·simp only [Act.put, List.setIfInBounds_toArray, List.set_cons_zero, List.set_cons_succ, i64_w, i32_w]
                      rfl
                     refine pure_ (i := 2) (N := some 95) (v := ?_) (a' := ?_) #[true, true, true, false, false, false, false, false, false, false, false, false, false, false, false, false] rfl rfl (any_of HT_.out (by kernel_rfl)) (fun _ _ _ h => h) (Or.inl ⟨by rfl, ?_⟩) ?_ ?_
                     rotate_left
                     ·intro w'
                      go_simp
                      with_reducible rfl
                     rotate_left
                     ·simp only [Act.put, List.setIfInBounds_toArray, List.set_cons_zero, List.set_cons_succ, i64_w, i32_w]
                      rfl
                     refine pure_ (i := 3) (N := some 96) (v := ?_) (a' := ?_) #[true, true, true, true, false, false, false, false, false, false, false, false, false, false, false, false] rfl rfl (any_of HT_.out (by kernel_rfl)) (fun _ _ _ h => h) (Or.inl ⟨by rfl, ?_⟩) ?_ ?_
                     rotate_left
                     ·intro w'
                      go_simp
                      with_reducible rfl
                     rotate_left
                     ·simp only [Act.put, List.setIfInBounds_toArray, List.set_cons_zero, List.set_cons_succ, i64_w, i32_w]
                      rfl
                     refine pure_ (i := 5) (N := some 98) (v := ?_) (a' := ?_) #[true, true, true, true, false, true, false, false, false, false, false, false, false, false, false, false] rfl rfl (any_of HT_.out (by kernel_rfl)) (fun _ _ _ h => h) (Or.inl ⟨by rfl, ?_⟩) ?_ ?_
                     rotate_left
                     ·intro w'
                      go_simp
                      with_reducible rfl
                     rotate_left
                     ·simp only [Act.put, List.setIfInBounds_toArray, List.set_cons_zero, List.set_cons_succ, i64_w, i32_w]
                      rfl
                     refine pure_ (i := 6) (N := some 99) (v := ?_) (a' := ?_) #[true, true, true, true, false, true, true, false, false, false, false, false, false, false, false, false] rfl rfl (any_of HT_.out (by kernel_rfl)) (fun _ _ _ h => h) (Or.inl ⟨by rfl, ?_⟩) ?_ ?_
                     rotate_left
                     ·intro w'
                      go_simp
                      with_reducible rfl
                     rotate_left
                     ·simp only [Act.put, List.setIfInBounds_toArray, List.set_cons_zero, List.set_cons_succ, i64_w, i32_w]
                      rfl
                     refine pure_ (i := 7) (N := some 100) (v := ?_) (a' := ?_) #[true, true, true, true, false, true, true, true, false, false, false, false, false, false, false, false] rfl rfl (any_of HT_.out (by kernel_rfl)) (fun _ _ _ h => h) (Or.inl ⟨by rfl, ?_⟩) ?_ ?_
                     rotate_left
                     ·intro w'
                      go_simp
                      with_reducible rfl
                     rotate_left
                     ·simp only [Act.put, List.setIfInBounds_toArray, List.set_cons_zero, List.set_cons_succ, i64_w, i32_w]
                      rfl
                     refine pure_ (i := 10) (N := some 103) (v := ?_) (a' := ?_) #[true, true, true, true, false, true, true, true, false, false, true, false, false, false, false, false] rfl rfl (any_of HT_.out (by kernel_rfl)) (fun _ _ _ h => h) (Or.inl ⟨by rfl, ?_⟩) ?_ ?_
                     rotate_left
                     ·intro w'
                      go_simp
                      with_reducible rfl
                     rotate_left
                     ·simp only [Act.put, List.setIfInBounds_toArray, List.set_cons_zero, List.set_cons_succ, i64_w, i32_w]
                      rfl
                     refine take_ (i := 4) (N := some 97) (v := ?_) (a' := ?_) #[true, true, true, true, true, true, true, true, false, false, true, false, false, false, false, false] rfl rfl (take_ofW HT_.out HW_.out (by kernel_rfl)) (fun _ _ _ h => h) (Or.inl ⟨by rfl, ?_⟩) hHeld ?_ ?_
                     rotate_left
                     ·rintro w' ⟨s0, s1⟩
                      go_simp
                      with_reducible rfl
                     rotate_left
                     ·simp only [Act.put, List.setIfInBounds_toArray, List.set_cons_zero, List.set_cons_succ, i64_w, i32_w]
                      rfl
                     refine take_ (i := 8) (N := some 101) (v := ?_) (a' := ?_) #[true, true, true, true, true, true, true, true, true, false, true, false, false, false, false, false] rfl rfl (take_ofW HT_.out HW_.out (by kernel_rfl)) (fun _ _ _ h => h) (Or.inl ⟨by rfl, ?_⟩) hHeld ?_ ?_
                     rotate_left
                     ·rintro w' ⟨s0, s1⟩
                      go_simp
                      with_reducible rfl
                     rotate_left
                     ·simp only [Act.put, List.setIfInBounds_toArray, List.set_cons_zero, List.set_cons_succ, i64_w, i32_w]
                      rfl
                     refine pure_ (i := 9) (N := some 102) (v := ?_) (a' := ?_) #[true, true, true, true, true, true, true, true, true, true, true, false, false, false, false, false] rfl rfl (any_of HT_.out (by kernel_rfl)) (fun _ _ _ h => h) (Or.inl ⟨by rfl, ?_⟩) ?_ ?_
                     rotate_left
                     ·intro w'
                      go_simp
                      with_reducible rfl
                     rotate_left
                     ·simp only [Act.put, List.setIfInBounds_toArray, List.set_cons_zero, List.set_cons_succ, i64_w, i32_w]
                      rfl
                     refine pure_ (i := 11) (N := some 104) (v := ?_) (a' := ?_) #[true, true, true, true, true, true, true, true, true, true, true, true, false, false, false, false] rfl rfl (any_of HT_.out (by kernel_rfl)) (fun _ _ _ h => h) (Or.inl ⟨by rfl, ?_⟩) ?_ ?_
                     rotate_left
                     ·intro w'
                      go_simp
                      with_reducible rfl
                     rotate_left
                     ·simp only [Act.put, List.setIfInBounds_toArray, List.set_cons_zero, List.set_cons_succ, i64_w, i32_w]
                      rfl
                     refine pure_ (i := 12) (N := some 105) (v := ?_) (a' := ?_) #[true, true, true, true, true, true, true, true, true, true, true, true, true, false, false, false] rfl rfl (any_of HT_.out (by kernel_rfl)) (fun _ _ _ h => h) (Or.inl ⟨by rfl, ?_⟩) ?_ ?_
                     rotate_left
                     ·intro w'
                      go_simp
                      with_reducible rfl
                     rotate_left
                     ·simp only [Act.put, List.setIfInBounds_toArray, List.set_cons_zero, List.set_cons_succ, i64_w, i32_w]
                      rfl
                     refine last_ (i := 13) (N := some 106) #[true, true, true, true, true, true, true, true, true, true, true, true, true, true, false, false] rfl rfl (one_of HT_.out (by kernel_rfl)) (by decide) (fun K hK => ?_)
                     refine value_ (w1 := ?_) (v := ?_) (by rfl) rfl ?_ ?_
                     rotate_left 2
                     ·go_simp
                      constructor
                      ·rfl
                      ·rfl
                     refine hK.out _ _ ?_
                     clear hK K
                     refine norm_ (a' := ?_) ?_ ?_
                     rotate_left
                     ·show Act.put _ (some 106) _ = _
                      simp only [Act.put, List.setIfInBounds_toArray, List.set_cons_zero, List.set_cons_succ, i64_w, i32_w]
                      rfl
                     refine one_ (i := 14) (N := some 107) #[true, true, true, true, true, true, true, true, true, true, true, true, true, true, true, false] rfl rfl (one_of HT_.out (by kernel_rfl)) (by decide) (fun K hK => ?_)
                     refine Kd.N_append_step (Kd.slice 9 Kd.string) (w0 := w) w.heap.size (by rfl) (.tmp 93) (.tmp 106) 23 22 (.slice none 0 0) 24 rfl Try.underlying23 info22 rfl (by decide) (by omega) u9 x9_5 y329 [.slice A327_0 y329.length c327_0] (fun k_ => ((P0_1_ k_ ∨ P0_2_ k_ ∨ P0_3_ k_) ∨ w.heap.size ≤ k_) ∧ some k_ ≠ (.slice (some ad327) x5_3.length co61 : Value).ownBlock ∧ k_ ≠ gb295) (fun k_ => ((fun k_ => ((P0_1_ k_ ∨ P0_2_ k_ ∨ P0_3_ k_) ∨ w.heap.size ≤ k_) ∧ some k_ ≠ (.slice (some ad327) x5_3.length co61 : Value).ownBlock ∧ k_ ≠ gb295)) k_ ∧ some k_ ≠ (u9 : Value).ownBlock) rfl rfl ?aP (fun _ hk => hk) ?aF ?aO ?aB ?aS ?aL ?_
                     (case aP => exact (Kd.FK_slice_mk (Kd.V_reads' (Kd.V_mono (ok' := (fun k_ => ((fun k_ => ((P0_1_ k_ ∨ P0_2_ k_ ∨ P0_3_ k_) ∨ w.heap.size ≤ k_) ∧ some k_ ≠ (.slice (some ad327) x5_3.length co61 : Value).ownBlock ∧ k_ ≠ gb295)) k_ ∧ some k_ ≠ (u9 : Value).ownBlock)) (HO333.out) (fun k_ hk => ⟨⟨hk.1.1, ⟨hk.2, hk.1.2.2⟩⟩, hk.1.2.1⟩))).2.1 (Kd.V_F (Kd.V_mono (ok' := (fun k_ => ((fun k_ => ((P0_1_ k_ ∨ P0_2_ k_ ∨ P0_3_ k_) ∨ w.heap.size ≤ k_) ∧ some k_ ≠ (.slice (some ad327) x5_3.length co61 : Value).ownBlock ∧ k_ ≠ gb295)) k_ ∧ some k_ ≠ (u9 : Value).ownBlock)) (HO333.out) (fun k_ hk => ⟨⟨hk.1.1, ⟨hk.2, hk.1.2.2⟩⟩, hk.1.2.1⟩)))))
                     (case aB => exact (by repeat (first | (with_reducible first | exact HB.out | apply below_alloc | apply pw_below_drewN | apply below_drew1 | refine below_set ?_ GE295.out) | exact HB.out)))
                     (case aF => exact (fun k_ hk => ⟨(.inr (Nat.le_trans (below_size (by repeat (first | (with_reducible first | exact HB.out | apply below_alloc | apply pw_below_drewN | apply below_drew1 | refine below_set ?_ GE295.out) | exact HB.out))) hk)), Kd.fresh' (Kd.N_lt (by (with_reducible repeat (first | apply nA | apply nN | apply nD)); exact HO_5.out)) k_ hk, Kd.freshB (g := gb295) (o := .cells #[.bool a0_0, .slice A0_1 l0_1.length c0_1, .slice A0_2 l0_2.length c0_2, .slice (some ad302) l0_3.length c0_3] 27 (0, 0)) (by (with_reducible repeat (first | refine blk_drewN ?_ _ | refine blk_drew ?_ | refine blk_alloc ?_ _)); exact BK295.out) k_ hk⟩))
                     (case aO => exact (by (with_reducible repeat (first | apply nA | apply nN | apply nD)); exact HO_9.out))
                     (case aS => exact (below_size (by repeat (first | (with_reducible first | exact HB.out | apply below_alloc | apply pw_below_drewN | apply below_drew1 | refine below_set ?_ GE295.out) | exact HB.out))))
                     (case aL => have := LMc60.out; omega)
                     intro v335 w64 ho hb hg hat
                     have HS0_ := cell_grown hg (hHeld.1) (fun e_ => Kd.own_blk ((HO_9.out.1 _ e_.symm).2.1) (by rw [add_block]))
                     have HS1_ := cell_grown hg (hHeld.2) (fun e_ => Kd.own_blk ((HO_9.out.1 _ e_.symm).2.1) (by rw [add_block]))
                     rw [← Ny334.out] at ho
                     have n0_ := am (Kd.V_afterv (ok := (fun k_ => ((P0_1_ k_ ∨ P0_2_ k_ ∨ P0_3_ k_) ∨ w.heap.size ≤ k_) ∧ some k_ ≠ (.slice (some ad327) x5_3.length co61 : Value).ownBlock ∧ k_ ≠ gb295)) (by (with_reducible repeat (first | apply vA | apply vN | apply vD)); exact Kd.V_mono HO_3.out (fun _ hk => ⟨⟨hk.1, ⟨hk.2.1, hk.2.2.2⟩⟩, hk.2.2.1⟩)) hg hat)
                     have n1_ := am (Kd.N_afterv (ok := (fun k_ => ((P0_1_ k_ ∨ P0_2_ k_ ∨ P0_3_ k_) ∨ w.heap.size ≤ k_) ∧ k_ ≠ gb295)) (by (with_reducible repeat (first | apply nA | apply nN | apply nD)); exact Kd.N_mono HO_5.out (fun _ hk => ⟨⟨hk.1, hk.2.2⟩, hk.2.1⟩)) hg hat)
                     have n2_ := am (Kd.V_afterv (ok := (fun k_ => ((P0_1_ k_ ∨ P0_2_ k_ ∨ P0_3_ k_) ∨ w.heap.size ≤ k_) ∧ some k_ ≠ (.slice (some ad327) x5_3.length co61 : Value).ownBlock ∧ k_ ≠ gb295)) (by (with_reducible repeat (first | apply vA | apply vN | apply vD)); exact Kd.V_mono HO_296001.out (fun _ hk => ⟨⟨hk.1, ⟨hk.2.1, hk.2.2.2⟩⟩, hk.2.2.1⟩)) hg hat)
                     have n3_ := am (Kd.V_afterv (ok := (fun k_ => ((P0_1_ k_ ∨ P0_2_ k_ ∨ P0_3_ k_) ∨ w.heap.size ≤ k_) ∧ some k_ ≠ (.slice (some ad327) x5_3.length co61 : Value).ownBlock ∧ k_ ≠ gb295)) (by (with_reducible repeat (first | apply vA | apply vN | apply vD)); exact Kd.V_mono HO_296002.out (fun _ hk => ⟨⟨hk.1, ⟨hk.2.1, hk.2.2.2⟩⟩, hk.2.2.1⟩)) hg hat)
                     have n4_ := am (Kd.V_afterv (ok := (fun k_ => ((P0_1_ k_ ∨ P0_2_ k_ ∨ P0_3_ k_) ∨ w.heap.size ≤ k_) ∧ some k_ ≠ (.slice (some ad327) x5_3.length co61 : Value).ownBlock ∧ k_ ≠ gb295)) (by (with_reducible repeat (first | apply vA | apply vN | apply vD)); exact Kd.V_mono HO_296003.out (fun _ hk => ⟨⟨hk.1, ⟨hk.2.1, hk.2.2.2⟩⟩, hk.2.2.1⟩)) hg hat)
                     have n5_ := am (blk_grown (g := gb295) (o := .cells #[.bool a0_0, .slice A0_1 l0_1.length c0_1, .slice A0_2 l0_2.length c0_2, .slice (some ad302) l0_3.length c0_3] 27 (0, 0)) (by (with_reducible repeat (first | refine blk_drewN ?_ _ | refine blk_drew ?_ | refine blk_alloc ?_ _)); exact BK295.out) hg (Kd.N_ne HO_9.out BK295.out (by decide)))
                     have n6_ := am (Kd.V_afterv (ok := (fun k_ => ((P0_1_ k_ ∨ P0_2_ k_ ∨ P0_3_ k_) ∨ w.heap.size ≤ k_) ∧ some k_ ≠ (.slice (some ad327) x5_3.length co61 : Value).ownBlock ∧ k_ ≠ gb295)) (by (with_reducible repeat (first | apply vA | apply vN | apply vD)); exact Kd.V_mono HL327_0.out (fun _ hk => ⟨⟨hk.1.1, ⟨hk.2, hk.1.2.2⟩⟩, hk.1.2.1⟩)) hg hat)
                     have n7_ := am (Kd.V_afterv (ok := (fun k_ => ((P0_1_ k_ ∨ P0_2_ k_ ∨ P0_3_ k_) ∨ w.heap.size ≤ k_) ∧ some k_ ≠ (.slice (some ad327) x5_3.length co61 : Value).ownBlock ∧ k_ ≠ gb295)) (by (with_reducible repeat (first | apply vA | apply vN | apply vD)); exact Kd.V_mono HL328_0.out (fun _ hk => ⟨⟨hk.1.1, ⟨hk.2, hk.1.2.2⟩⟩, hk.1.2.1⟩)) hg hat)
                     have n8_ := am (Kd.V_afterv (ok := (fun k_ => ((P0_1_ k_ ∨ P0_2_ k_ ∨ P0_3_ k_) ∨ w.heap.size ≤ k_) ∧ some k_ ≠ (.slice (some ad327) x5_3.length co61 : Value).ownBlock ∧ k_ ≠ gb295)) (by (with_reducible repeat (first | apply vA | apply vN | apply vD)); exact Kd.V_mono HO333.out (fun _ hk => ⟨⟨hk.1.1, ⟨hk.2, hk.1.2.2⟩⟩, hk.1.2.1⟩)) hg hat)
                     have n9_ := am (hb)
                     have n10_ := am (ho)
                     clear HO_3
                     clear HO_5
                     clear HO_296001
                     clear HO_296002
                     clear HO_296003
                     clear BK295
                     clear HL327_0
                     clear HL328_0
                     clear HO333
                     clear HB
                     clear HO_9
                     have HO_3 := n0_
                     have HO_5 := n1_
                     have HO_296001 := n2_
                     have HO_296002 := n3_
                     have HO_296003 := n4_
                     have BK295 := n5_
                     have HL327_0 := n6_
                     have HL328_0 := n7_
                     have HO333 := n8_
                     have HB := n9_
                     have HO336 := n10_
                     clear n0_ n1_ n2_ n3_ n4_ n5_ n6_ n7_ n8_ n9_ n10_
                     clear ho hb hg hat
                     refine hK.out _ _ ⟨HS0_, HS1_⟩ (fun hHeld => ?_)
                     clear hK K
                     refine norm_ (a' := ?_) ?_ ?_
                     rotate_left
                     ·show Act.put _ (some 107) _ = _
                      simp only [Act.put, List.setIfInBounds_toArray, List.set_cons_zero, List.set_cons_succ, i64_w, i32_w]
                      rfl
                     refine pure_ (i := 15) (N := some 9) (v := ?_) (a' := ?_) #[true, true, true, true, true, true, true, true, true, true, true, true, true, true, true, true] rfl rfl (any_of HT_.out (by kernel_rfl)) (fun _ _ _ h => h) (Or.inl ⟨by rfl, ?_⟩) ?_ ?_
                     rotate_left
                     ·intro w'
                      go_simp
                      with_reducible rfl
                     rotate_left
                     ·simp only [Act.put, List.setIfInBounds_toArray, List.set_cons_zero, List.set_cons_succ, i64_w, i32_w]
                      rfl
                     refine done_ (done_of HT_.out (by kernel_rfl)) ?_
                     try go_wp2
                     go_roundg k5
                     case measure => have := HJ1.out; have := HJ15.out; have := HK3.out; have := HJ43.out; have := HK5.out; omega
                     case rel => exact ⟨(y334), (wrap64 (x10_5 + 1)), (by first | rfl | (simp; done) | (simp [*]; done)), H', ⟨by have := HJ1.out; have := HJ15.out; have := HK3.out; have := HJ43.out; have := HK5.out; omega⟩, ⟨by (with_reducible repeat (first | apply vA | apply vN | apply vD)); exact Kd.V_mono HO_3.out (fun _ hk => ⟨hk.1.1, ⟨hk.1.2.1, ⟨hk.2, hk.1.2.2⟩⟩⟩)⟩, ⟨by (with_reducible repeat (first | apply nA | apply nN | apply nD)); exact Kd.N_mono HO_5.out (fun _ hk => ⟨hk.1.1, ⟨hk.2, hk.1.2⟩⟩)⟩, ⟨by (with_reducible repeat (first | apply nA | apply nN | apply nD)); exact HO336.out⟩, ⟨by (with_reducible repeat (first | apply vA | apply vN | apply vD)); exact Kd.V_mono HO_296001.out (fun _ hk => ⟨hk.1.1, ⟨hk.1.2.1, ⟨hk.2, hk.1.2.2⟩⟩⟩)⟩, ⟨by (with_reducible repeat (first | apply vA | apply vN | apply vD)); exact Kd.V_mono HO_296002.out (fun _ hk => ⟨hk.1.1, ⟨hk.1.2.1, ⟨hk.2, hk.1.2.2⟩⟩⟩)⟩, ⟨by (with_reducible repeat (first | apply vA | apply vN | apply vD)); exact Kd.V_mono HO_296003.out (fun _ hk => ⟨hk.1.1, ⟨hk.1.2.1, ⟨hk.2, hk.1.2.2⟩⟩⟩)⟩, ⟨by (with_reducible repeat (first | refine blk_drewN ?_ _ | refine blk_drew ?_ | refine blk_alloc ?_ _)); exact BK295.out⟩, ⟨by repeat (first | (with_reducible first | exact HB.out | apply below_alloc | apply pw_below_drewN | apply below_drew1 | refine below_set ?_ GE295.out) | exact HB.out)⟩⟩
                    ·rw [if_neg c60] at H
                     exact absurd H (by simp)
                   ·rw [if_neg c59] at H
                    exact absurd H (by simp)
                  ·rw [if_neg c58] at H
                   exact absurd H (by simp)
                 ·rw [if_neg c56] at H
                  exact absurd H (by simp)
                ·rw [if_neg c55] at H
                 have c55b0 : decide (x10_5 < (x5_3.length : Int)) = false := decide_eq_false c55
                 clear c55
                 by_cases c65 : 0 ≤ x4_15
                 ·rw [if_pos c65] at H
                  have c65b0 := eq_true c65
                  have c65b1 : decide (0 ≤ x4_15) = true := decide_eq_true c65
                  clear c65
                  by_cases c66 : x4_15 ≤ (y303.length : Int)
                  ·rw [if_pos c66] at H
                   have c66b0 := eq_true c66
                   have c66b1 : decide (x4_15 ≤ (y303.length : Int)) = true := decide_eq_true c66
                   clear c66
                   obtain ⟨y337, hy337⟩ : ∃ y_ : List ByteArray, y_ = (y303.take (x4_15 : Int).toNat) := ⟨_, rfl⟩
                   replace H : (if 0 ≤ (wrap64 ((y303.length : Int) - x8_43)) then (if (wrap64 ((y303.length : Int) - x8_43)) ≤ (y303.length : Int) then ((sennitref07_Normal.f k5 (([(⟨false, y337, ([] : List ByteArray), ([] : List (List ByteArray))⟩ : S27), (⟨true, ([] : List ByteArray), l0_2, x9_5⟩ : S27), (⟨false, (y303.drop ((wrap64 ((y303.length : Int) - x8_43)) : Int).toNat), ([] : List ByteArray), ([] : List (List ByteArray))⟩ : S27)] : List (S27)))).bind fun t350 => (some t350)) else (none)) else (none)) = some r := by first | (rw [hy337]; with_reducible exact H) | (have H2_ := (Option.bind_some _ _).symm.trans H; rw [hy337]; with_reducible exact H2_) | (have H2_ := (Option.bind_some _ _).symm.trans H; with_reducible exact H2_) | with_reducible exact H | (rw [hy337]; exact H) | exact H
                   have Ny337 := am hy337
                   clear hy337
                   obtain ⟨ji67, hji67⟩ : ∃ j_ : Int, (wrap64 ((y303.length : Int) - x8_43)) = j_ := ⟨_, rfl⟩
                   replace H : (if 0 ≤ (ji67) then (if (ji67) ≤ (y303.length : Int) then ((sennitref07_Normal.f k5 (([(⟨false, y337, ([] : List ByteArray), ([] : List (List ByteArray))⟩ : S27), (⟨true, ([] : List ByteArray), l0_2, x9_5⟩ : S27), (⟨false, (y303.drop ((ji67) : Int).toNat), ([] : List ByteArray), ([] : List (List ByteArray))⟩ : S27)] : List (S27)))).bind fun t350 => (some t350)) else (none)) else (none)) = some r := by first | (rw [hji67] at H; exact H) | (simp only [hji67] at H ⊢; exact H)
                   have hji67w : (IntKind.i64.wrap ((y303.length : Int) - x8_43)) = ji67 := (i64_w _).trans hji67
                   by_cases c68 : 0 ≤ (ji67)
                   ·rw [if_pos c68] at H
                    have c68b0 := eq_true c68
                    have c68b1 : decide (0 ≤ (ji67)) = true := decide_eq_true c68
                    clear c68
                    by_cases c69 : (ji67) ≤ (y303.length : Int)
                    ·rw [if_pos c69] at H
                     have c69b0 := eq_true c69
                     have c69b1 : decide ((ji67) ≤ (y303.length : Int)) = true := decide_eq_true c69
                     clear c69
                     obtain ⟨y342, hy342⟩ : ∃ y_ : List ByteArray, y_ = (y303.drop ((ji67) : Int).toNat) := ⟨_, rfl⟩
                     replace H : ((sennitref07_Normal.f k5 (([(⟨false, y337, ([] : List ByteArray), ([] : List (List ByteArray))⟩ : S27), (⟨true, ([] : List ByteArray), l0_2, x9_5⟩ : S27), (⟨false, y342, ([] : List ByteArray), ([] : List (List ByteArray))⟩ : S27)] : List (S27)))).bind fun t350 => (some t350)) = some r := by first | (rw [hy342]; with_reducible exact H) | (have H2_ := (Option.bind_some _ _).symm.trans H; rw [hy342]; with_reducible exact H2_) | (have H2_ := (Option.bind_some _ _).symm.trans H; with_reducible exact H2_) | with_reducible exact H | (rw [hy342]; exact H) | exact H
                     have Ny342 := am hy342
                     clear hy342
                     obtain ⟨y347, hy347⟩ : ∃ y_ : List (S27), y_ = (([(⟨false, y337, ([] : List ByteArray), ([] : List (List ByteArray))⟩ : S27), (⟨true, ([] : List ByteArray), l0_2, x9_5⟩ : S27), (⟨false, y342, ([] : List ByteArray), ([] : List (List ByteArray))⟩ : S27)] : List (S27))) := ⟨_, rfl⟩
                     replace H : ((sennitref07_Normal.f k5 y347).bind fun t350 => (some t350)) = some r := by first | (rw [hy347]; with_reducible exact H) | (have H2_ := (Option.bind_some _ _).symm.trans H; rw [hy347]; with_reducible exact H2_) | (have H2_ := (Option.bind_some _ _).symm.trans H; with_reducible exact H2_) | with_reducible exact H | (rw [hy347]; exact H) | exact H
                     have Ny347 := am hy347
                     clear hy347
                     replace H := Option.bind_eq_some_iff.mp H
                     obtain ⟨t350, A700, H⟩ := H
                     replace H : (some t350) = some r := H
                     have A70 := am A700
                     clear A700
                     obtain rfl := Option.some.inj H
                     obtain ⟨Ao71, co71, eo71⟩ := Kd.N_slice HO_5.out
                     subst eo71
                     try go_wp2
                     have n0_ := am (Kd.V_drew HO_3.out)
                     have n1_ := am (Kd.N_drew HO_5.out)
                     have n2_ := am (Kd.N_drew HO_9.out)
                     have n3_ := am (Kd.V_drew HO_296001.out)
                     have n4_ := am (Kd.V_drew HO_296002.out)
                     have n5_ := am (Kd.V_drew HO_296003.out)
                     have n6_ := am (blk_drew BK295.out)
                     have n7_ := am (below_drew1 HB.out)
                     clear HO_3
                     clear HO_5
                     clear HO_9
                     clear HO_296001
                     clear HO_296002
                     clear HO_296003
                     clear BK295
                     clear HB
                     have HO_3 := n0_
                     have HO_5 := n1_
                     have HO_9 := n2_
                     have HO_296001 := n3_
                     have HO_296002 := n4_
                     have HO_296003 := n5_
                     have BK295 := n6_
                     have HB := n7_
                     clear n0_ n1_ n2_ n3_ n4_ n5_ n6_ n7_
                     have q73 : (x4_15 : Int) ≤ ((y303.length : Int) : Int) := of_decide_eq_true (by first | (with_reducible assumption) | assumption)
                     obtain ⟨i073, hi073, _, hsz73, _⟩ := info_parts info9
                     have hroom73 : y303.length ≤ c18 := (Kd.V_reads' HO_3.out).2.1
                     have hC73 : Kd.F Kd.string _ _ A18 y303.length y303 := (Kd.V_at (base := w.heap.size) HO_3.out).2.2
                     have hcut73 := cut_to (P := Try.prog) 22 9 .i64 Try.underlying22 hi073 A18 y303.length c18 x4_15 (of_decide_eq_true (by first | (with_reducible assumption) | assumption)) q73 hroom73
                     have hr73 := Kd.F_take (m := (x4_15 : Int).toNat) hC73 (by omega)
                     have hy73 : y337.length = (x4_15 : Int).toNat := (by rw [Ny337.out, List.length_take]; omega)
                     rw [← Ny337.out] at hr73
                     rw [← hy73] at hcut73
                     have HO341 := am (show Kd.V Kd.string 9 _ w.heap.size _ (.slice A18 y337.length c18) y337 from Kd.V_mk (by omega) hr73)
                     have HC341 := am (show y337.length ≤ c18 from by omega)
                     clear hr73 hC73 hroom73 hi073 hsz73
                     have KY73 := am hy73
                     clear hy73
                     replace q73 := eq_true q73
                     obtain ⟨Ao74, co74, eo74⟩ := Kd.N_slice HO_9.out
                     (first | subst eo74 | (injection eo74 with f1_ f2_ f3_; have f4_ := f1_.symm; have f5_ := f3_.symm; clear f1_ f2_ f3_; subst f4_; subst f5_))
                     have q75 : ((ji67) : Int) ≤ ((y303.length : Int) : Int) := of_decide_eq_true (by first | (with_reducible assumption) | assumption)
                     obtain ⟨i075, hi075, _, hsz75, _⟩ := info_parts info9
                     have hroom75 : y303.length ≤ c18 := (Kd.V_reads' HO_3.out).2.1
                     have hC75 : Kd.F Kd.string _ _ A18 y303.length y303 := (Kd.V_at (base := w.heap.size) HO_3.out).2.2
                     have q075 : (0 : Int) ≤ ((ji67) : Int) := of_decide_eq_true (by first | (with_reducible assumption) | assumption)
                     have hcut75 := cut_from (P := Try.prog) 22 9 .i64 Try.underlying22 hi075 1 hsz75 A18 y303.length c18 (ji67) q075 q75
                     have hr75 := Kd.F_cut (m := ((ji67) : Int).toNat) (c := c18) hC75 (by omega) hroom75
                     obtain ⟨A75, hA75⟩ : ∃ A1x_, A1x_ = (if c18 = ((ji67) : Int).toNat then A18 else (A18 : Option Addr).map (·.add (((ji67) : Int).toNat * 1))) := ⟨_, rfl⟩
                     obtain ⟨c75, hc75⟩ : ∃ c1x_, c1x_ = c18 - ((ji67) : Int).toNat := ⟨_, rfl⟩
                     have hy75 : y342.length = y303.length - ((ji67) : Int).toNat := (by rw [Ny342.out, List.length_drop] <;> omega)
                     rw [show (y303).drop ((ji67) : Int).toNat = y342 from Ny342.out.symm] at hr75
                     replace hr75 : Kd.F Kd.string _ _ A75 y342.length y342 := (by rw [hA75]; exact hr75)
                     rw [← hy75, ← hA75, ← hc75] at hcut75
                     have HO346 := am (show Kd.V Kd.string 9 _ w.heap.size _ (.slice A75 y342.length c75) y342 from Kd.V_mk (by rw [hy75, hc75]; exact Nat.sub_le_sub_right hroom75 _) hr75)
                     have HC346 := am (show y342.length ≤ c75 from by rw [hy75, hc75]; exact Nat.sub_le_sub_right hroom75 _)
                     clear hr75 hC75 hroom75 hi075 hsz75 hc75
                     have KY75 := am hy75
                     have KA75 := am hA75
                     clear hy75 hA75
                     replace q75 := eq_true q75
                     refine start_ (n := 18) (S := fun w' => w'.cell? ⟨gb295, 0, none⟩ = some (.bool a0_0) ∧ w'.cell? ⟨gb295, 1, none⟩ = some (.slice A0_1 l0_1.length c0_1) ∧ w'.cell? ⟨gb295, 2, none⟩ = some (.slice A0_2 l0_2.length c0_2) ∧ w'.cell? ⟨gb295, 3, none⟩ = some (.slice (some ad302) l0_3.length c0_3)) (ds := []) #[false, false, false, false, false, false, false, false, false, false, false, false, false, false, false, false, false, false] (by kernel_rfl) rfl rfl ⟨(blk_cell BK295.out 0).trans rfl, (blk_cell BK295.out 1).trans rfl, (blk_cell BK295.out 2).trans rfl, (blk_cell BK295.out 3).trans rfl⟩ (fun hHeld => ?_); refine with_tabW sennitref10_Trim.tab24 sennitref10_Trim.bits24 (fun HT_ HW_ => ?_)
                     generalize wr.drew = w72 at HO_3 HO_5 HO_9 HO_296001 HO_296002 HO_296003 BK295 HB HO341 HO346 hHeld ⊢
                     refine pure_ (i := 0) (N := some 108) (v := ?_) (a' := ?_) #[true, false, false, false, false, false, false, false, false, false, false, false, false, false, false, false, false, false] rfl rfl (any_of HT_.out (by kernel_rfl)) (fun _ _ _ h => h) (Or.inl ⟨by rfl, ?_⟩) ?_ ?_
                     rotate_left
                     ·intro w'
                      go_simp
                      with_reducible rfl
                     rotate_left
                     ·simp only [Act.put, List.setIfInBounds_toArray, List.set_cons_zero, List.set_cons_succ, i64_w, i32_w]
                      rfl
                     refine pure_ (i := 1) (N := some 109) (v := ?_) (a' := ?_) #[true, true, false, false, false, false, false, false, false, false, false, false, false, false, false, false, false, false] rfl rfl (any_of HT_.out (by kernel_rfl)) (fun _ _ _ h => h) (Or.inl ⟨by rfl, ?_⟩) ?_ ?_
                     rotate_left
                     ·intro w'
                      go_simp
                      with_reducible rfl
                     rotate_left
                     ·simp only [Act.put, List.setIfInBounds_toArray, List.set_cons_zero, List.set_cons_succ, i64_w, i32_w]
                      rfl
                     refine pure_ (i := 2) (N := some 110) (v := ?_) (a' := ?_) #[true, true, true, false, false, false, false, false, false, false, false, false, false, false, false, false, false, false] rfl rfl (any_of HT_.out (by kernel_rfl)) (fun _ _ _ h => h) (Or.inl ⟨by rfl, ?_⟩) ?_ ?_
                     rotate_left
                     ·intro w'
                      go_simp
                      with_reducible rfl
                     rotate_left
                     ·simp only [Act.put, List.setIfInBounds_toArray, List.set_cons_zero, List.set_cons_succ, i64_w, i32_w]
                      rfl
                     refine pure_ (i := 3) (N := some 111) (v := ?_) (a' := ?_) #[true, true, true, true, false, false, false, false, false, false, false, false, false, false, false, false, false, false] rfl rfl (any_of HT_.out (by kernel_rfl)) (fun _ _ _ h => h) (Or.inl ⟨by rfl, ?_⟩) ?_ ?_
                     rotate_left
                     ·intro w'
                      go_simp
                      with_reducible rfl
                     rotate_left
                     ·simp only [Act.put, List.setIfInBounds_toArray, List.set_cons_zero, List.set_cons_succ, i64_w, i32_w]
                      rfl
                     refine pure_ (i := 4) (N := some 112) (v := ?_) (a' := ?_) #[true, true, true, true, true, false, false, false, false, false, false, false, false, false, false, false, false, false] rfl rfl (any_of HT_.out (by kernel_rfl)) (fun _ _ _ h => h) (Or.inl ⟨by rfl, ?_⟩) ?_ ?_
                     rotate_left
                     ·intro w'
                      go_simp
                      with_reducible rfl
                     rotate_left
                     ·simp only [Act.put, List.setIfInBounds_toArray, List.set_cons_zero, List.set_cons_succ, i64_w, i32_w]
                      rfl
                     refine pure_ (i := 6) (N := some 114) (v := ?_) (a' := ?_) #[true, true, true, true, true, false, true, false, false, false, false, false, false, false, false, false, false, false] rfl rfl (any_of HT_.out (by kernel_rfl)) (fun _ _ _ h => h) (Or.inl ⟨by rfl, ?_⟩) ?_ ?_
                     rotate_left
                     ·intro w'
                      go_simp
                      with_reducible rfl
                     rotate_left
                     ·simp only [Act.put, List.setIfInBounds_toArray, List.set_cons_zero, List.set_cons_succ, i64_w, i32_w]
                      rfl
                     refine pure_ (i := 8) (N := some 116) (v := ?_) (a' := ?_) #[true, true, true, true, true, false, true, false, true, false, false, false, false, false, false, false, false, false] rfl rfl (any_of HT_.out (by kernel_rfl)) (fun _ _ _ h => h) (Or.inl ⟨by rfl, ?_⟩) ?_ ?_
                     rotate_left
                     ·intro w'
                      go_simp
                      with_reducible rfl
                     rotate_left
                     ·simp only [Act.put, List.setIfInBounds_toArray, List.set_cons_zero, List.set_cons_succ, i64_w, i32_w]
                      rfl
                     refine pure_ (i := 9) (N := some 117) (v := ?_) (a' := ?_) #[true, true, true, true, true, false, true, false, true, true, false, false, false, false, false, false, false, false] rfl rfl (any_of HT_.out (by kernel_rfl)) (fun _ _ _ h => h) (Or.inl ⟨by rfl, ?_⟩) ?_ ?_
                     rotate_left
                     ·intro w'
                      go_simp
                      with_reducible rfl
                     rotate_left
                     ·simp only [Act.put, List.setIfInBounds_toArray, List.set_cons_zero, List.set_cons_succ, i64_w, i32_w]
                      rfl
                     refine pure_ (i := 10) (N := some 118) (v := ?_) (a' := ?_) #[true, true, true, true, true, false, true, false, true, true, true, false, false, false, false, false, false, false] rfl rfl (any_of HT_.out (by kernel_rfl)) (fun _ _ _ h => h) (Or.inl ⟨by rfl, ?_⟩) ?_ ?_
                     rotate_left
                     ·intro w'
                      go_simp
                      with_reducible rfl
                     rotate_left
                     ·simp only [Act.put, List.setIfInBounds_toArray, List.set_cons_zero, List.set_cons_succ, i64_w, i32_w]
                      rfl
                     refine pure_ (i := 11) (N := some 119) (v := ?_) (a' := ?_) #[true, true, true, true, true, false, true, false, true, true, true, true, false, false, false, false, false, false] rfl rfl (any_of HT_.out (by kernel_rfl)) (fun _ _ _ h => h) (Or.inl ⟨by rfl, ?_⟩) ?_ ?_
                     rotate_left
                     ·intro w'
                      go_simp
                      with_reducible rfl
                     rotate_left
                     ·simp only [Act.put, List.setIfInBounds_toArray, List.set_cons_zero, List.set_cons_succ, i64_w, i32_w]
                      rfl
                     refine pure_ (i := 12) (N := some 120) (v := ?_) (a' := ?_) #[true, true, true, true, true, false, true, false, true, true, true, true, true, false, false, false, false, false] rfl rfl (any_of HT_.out (by kernel_rfl)) (fun _ _ _ h => h) (Or.inl ⟨by rfl, ?_⟩) ?_ ?_
                     rotate_left
                     ·intro w'
                      go_simp
                      with_reducible rfl
                     rotate_left
                     ·simp only [Act.put, List.setIfInBounds_toArray, List.set_cons_zero, List.set_cons_succ, i64_w, i32_w]
                      rfl
                     refine pure_ (i := 13) (N := some 121) (v := ?_) (a' := ?_) #[true, true, true, true, true, false, true, false, true, true, true, true, true, true, false, false, false, false] rfl rfl (any_of HT_.out (by kernel_rfl)) (fun _ _ _ h => h) (Or.inl ⟨by rfl, ?_⟩) ?_ ?_
                     rotate_left
                     ·intro w'
                      go_simp
                      with_reducible rfl
                     rotate_left
                     ·simp only [Act.put, List.setIfInBounds_toArray, List.set_cons_zero, List.set_cons_succ, i64_w, i32_w]
                      rfl
                     refine pure_ (i := 14) (N := some 122) (v := ?_) (a' := ?_) #[true, true, true, true, true, false, true, false, true, true, true, true, true, true, true, false, false, false] rfl rfl (any_of HT_.out (by kernel_rfl)) (fun _ _ _ h => h) (Or.inl ⟨by rfl, ?_⟩) ?_ ?_
                     rotate_left
                     ·intro w'
                      go_simp
                      with_reducible rfl
                     rotate_left
                     ·simp only [Act.put, List.setIfInBounds_toArray, List.set_cons_zero, List.set_cons_succ, i64_w, i32_w]
                      rfl
                     refine take_ (i := 5) (N := some 113) (v := ?_) (a' := ?_) #[true, true, true, true, true, true, true, false, true, true, true, true, true, true, true, false, false, false] rfl rfl (take_ofW HT_.out HW_.out (by kernel_rfl)) (fun _ _ _ h => h) (Or.inl ⟨by rfl, ?_⟩) hHeld ?_ ?_
                     rotate_left
                     ·rintro w' ⟨s0, s1, s2, s3⟩
                      go_simp
                      with_reducible rfl
                     rotate_left
                     ·simp only [Act.put, List.setIfInBounds_toArray, List.set_cons_zero, List.set_cons_succ, i64_w, i32_w]
                      rfl
                     refine pure_ (i := 7) (N := some 115) (v := ?_) (a' := ?_) #[true, true, true, true, true, true, true, true, true, true, true, true, true, true, true, false, false, false] rfl rfl (any_of HT_.out (by kernel_rfl)) (fun _ _ _ h => h) (Or.inl ⟨by rfl, ?_⟩) ?_ ?_
                     rotate_left
                     ·intro w'
                      go_simp
                      with_reducible rfl
                     rotate_left
                     ·simp only [Act.put, List.setIfInBounds_toArray, List.set_cons_zero, List.set_cons_succ, i64_w, i32_w]
                      rfl
                     refine one_ (i := 15) (N := some 123) #[true, true, true, true, true, true, true, true, true, true, true, true, true, true, true, true, false, false] rfl rfl (one_of HT_.out (by kernel_rfl)) (by decide) (fun K hK => ?_)
                     refine Kd.N_lit_step k27 _ 27 ?hg (N' := 123) ?hd (xs := ([(⟨false, y337, ([] : List ByteArray), ([] : List (List ByteArray))⟩ : S27), (⟨true, ([] : List ByteArray), l0_2, x9_5⟩ : S27), (⟨false, y342, ([] : List ByteArray), ([] : List (List ByteArray))⟩ : S27)] : List (S27))) (inner := [.bool false, .slice A18 y337.length c18, .slice none 0 0, .slice none 0 0, .bool true, .slice none 0 0, .slice A0_2 l0_2.length c0_2, .slice Ao74 x9_5.length co74, .bool false, .slice A75 y342.length c75, .slice none 0 0, .slice none 0 0]) (ok := (fun k_ => ((P0_1_ k_ ∨ P0_2_ k_ ∨ P0_3_ k_) ∨ w.heap.size ≤ k_) ∧ some k_ ≠ (.slice Ao71 x5_3.length co71 : Value).ownBlock ∧ k_ ≠ gb295)) (okp := (fun k_ => ((P0_1_ k_ ∨ P0_2_ k_ ∨ P0_3_ k_) ∨ w.heap.size ≤ k_) ∧ some k_ ≠ (.slice Ao71 x5_3.length co71 : Value).ownBlock ∧ k_ ≠ gb295)) ?hr ?hp (fun _ hk => hk) ((show ∀ k_, w72.heap.size ≤ k_ → (fun k_ => ((P0_1_ k_ ∨ P0_2_ k_ ∨ P0_3_ k_) ∨ w.heap.size ≤ k_) ∧ some k_ ≠ (.slice Ao71 x5_3.length co71 : Value).ownBlock ∧ k_ ≠ gb295) k_ from fun k_ hk => ⟨(.inr (Nat.le_trans (below_size (by repeat (first | (with_reducible first | exact HB.out | apply below_alloc | apply pw_below_drewN | apply below_drew1 | refine below_set ?_ GE295.out) | exact HB.out))) hk)), Kd.fresh' (Kd.N_lt (by (with_reducible repeat (first | apply nA | apply nN | apply nD)); exact HO_5.out)) k_ hk, Kd.freshB (g := gb295) (o := .cells #[.bool a0_0, .slice A0_1 l0_1.length c0_1, .slice A0_2 l0_2.length c0_2, .slice (some ad302) l0_3.length c0_3] 27 (0, 0)) (by (with_reducible repeat (first | refine blk_drewN ?_ _ | refine blk_drew ?_ | refine blk_alloc ?_ _)); exact BK295.out) k_ hk⟩) _ (Nat.le_refl _)) (Below.refl _ _) (Nat.le_refl _) (by simp) ?_; (case hd => rfl); (case hg => rfl); (case hr => first | (go_simp; done) | (go_simp; rfl)); (case hp => exact (Reps.c4 (show Kd.FK k27 _ _ (⟨false, y337, ([] : List ByteArray), ([] : List (List ByteArray))⟩ : S27) [.bool false, .slice A18 y337.length c18, .slice none 0 0, .slice none 0 0] from (k27_mkF _ _ (⟨false, y337, ([] : List ByteArray), ([] : List (List ByteArray))⟩ : S27) (Kd.V_reads' (Kd.V_mono (ok' := (fun k_ => ((P0_1_ k_ ∨ P0_2_ k_ ∨ P0_3_ k_) ∨ w.heap.size ≤ k_) ∧ some k_ ≠ (.slice Ao71 x5_3.length co71 : Value).ownBlock ∧ k_ ≠ gb295)) (HO341.out) (fun k_ hk => ⟨hk.1, ⟨hk.2.1, hk.2.2.2⟩⟩))).2.1 (Kd.V_F (Kd.V_mono (ok' := (fun k_ => ((P0_1_ k_ ∨ P0_2_ k_ ∨ P0_3_ k_) ∨ w.heap.size ≤ k_) ∧ some k_ ≠ (.slice Ao71 x5_3.length co71 : Value).ownBlock ∧ k_ ≠ gb295)) (HO341.out) (fun k_ hk => ⟨hk.1, ⟨hk.2.1, hk.2.2.2⟩⟩))) (Nat.le_refl _) (Kd.F_nil _ _ _) (Nat.le_refl _) (Kd.F_nil _ _ _))) (Reps.c4 (show Kd.FK k27 _ _ (⟨true, ([] : List ByteArray), l0_2, x9_5⟩ : S27) [.bool true, .slice none 0 0, .slice A0_2 l0_2.length c0_2, .slice Ao74 x9_5.length co74] from (k27_mkF _ _ (⟨true, ([] : List ByteArray), l0_2, x9_5⟩ : S27) (Nat.le_refl _) (Kd.F_nil _ _ _) (Kd.V_reads' (Kd.V_mono (ok' := (fun k_ => ((P0_1_ k_ ∨ P0_2_ k_ ∨ P0_3_ k_) ∨ w.heap.size ≤ k_) ∧ some k_ ≠ (.slice Ao71 x5_3.length co71 : Value).ownBlock ∧ k_ ≠ gb295)) (HO_296002.out) (fun k_ hk => ⟨hk.1, ⟨hk.2.1, hk.2.2.2⟩⟩))).2.1 (Kd.V_F (Kd.V_mono (ok' := (fun k_ => ((P0_1_ k_ ∨ P0_2_ k_ ∨ P0_3_ k_) ∨ w.heap.size ≤ k_) ∧ some k_ ≠ (.slice Ao71 x5_3.length co71 : Value).ownBlock ∧ k_ ≠ gb295)) (HO_296002.out) (fun k_ hk => ⟨hk.1, ⟨hk.2.1, hk.2.2.2⟩⟩))) (Kd.N_reads' (Kd.N_mono (ok' := (fun k_ => ((P0_1_ k_ ∨ P0_2_ k_ ∨ P0_3_ k_) ∨ w.heap.size ≤ k_) ∧ some k_ ≠ (.slice Ao71 x5_3.length co71 : Value).ownBlock ∧ k_ ≠ gb295)) (HO_9.out) (fun k_ hk => ⟨hk.1, ⟨hk.2.1, hk.2.2⟩⟩))).2.1 (Kd.N_F (Kd.N_mono (ok' := (fun k_ => ((P0_1_ k_ ∨ P0_2_ k_ ∨ P0_3_ k_) ∨ w.heap.size ≤ k_) ∧ some k_ ≠ (.slice Ao71 x5_3.length co71 : Value).ownBlock ∧ k_ ≠ gb295)) (HO_9.out) (fun k_ hk => ⟨hk.1, ⟨hk.2.1, hk.2.2⟩⟩))))) (Reps.c4 (show Kd.FK k27 _ _ (⟨false, y342, ([] : List ByteArray), ([] : List (List ByteArray))⟩ : S27) [.bool false, .slice A75 y342.length c75, .slice none 0 0, .slice none 0 0] from (k27_mkF _ _ (⟨false, y342, ([] : List ByteArray), ([] : List (List ByteArray))⟩ : S27) (Kd.V_reads' (Kd.V_mono (ok' := (fun k_ => ((P0_1_ k_ ∨ P0_2_ k_ ∨ P0_3_ k_) ∨ w.heap.size ≤ k_) ∧ some k_ ≠ (.slice Ao71 x5_3.length co71 : Value).ownBlock ∧ k_ ≠ gb295)) (HO346.out) (fun k_ hk => ⟨hk.1, ⟨hk.2.1, hk.2.2.2⟩⟩))).2.1 (Kd.V_F (Kd.V_mono (ok' := (fun k_ => ((P0_1_ k_ ∨ P0_2_ k_ ∨ P0_3_ k_) ∨ w.heap.size ≤ k_) ∧ some k_ ≠ (.slice Ao71 x5_3.length co71 : Value).ownBlock ∧ k_ ≠ gb295)) (HO346.out) (fun k_ hk => ⟨hk.1, ⟨hk.2.1, hk.2.2.2⟩⟩))) (Nat.le_refl _) (Kd.F_nil _ _ _) (Nat.le_refl _) (Kd.F_nil _ _ _))) (Reps.none _ _)))))
                     intro v348 w76 ho77 hb hg_ hnew_
                     clear hg_ hnew_
                     (first | rw [← Ny347.out] at ho77 | (simp only [Int.reduceToNat] at ho77; rw [← Ny347.out] at ho77))
                     have n0_ := am (Kd.V_elder' (by (with_reducible repeat (first | apply vA | apply vN | apply vD)); exact HO_3.out) (Kd.N_base ho77) hb)
                     have n1_ := am (Kd.N_elder' (by (with_reducible repeat (first | apply nA | apply nN | apply nD)); exact HO_5.out) (Kd.N_base ho77) hb)
                     have n2_ := am (Kd.V_elder' (by (with_reducible repeat (first | apply vA | apply vN | apply vD)); exact HO_296001.out) (Kd.N_base ho77) hb)
                     have n3_ := am (Kd.V_elder' (by (with_reducible repeat (first | apply vA | apply vN | apply vD)); exact HO_296002.out) (Kd.N_base ho77) hb)
                     have n4_ := am (Kd.V_elder' (by (with_reducible repeat (first | apply vA | apply vN | apply vD)); exact HO_296003.out) (Kd.N_base ho77) hb)
                     have n5_ := am (Kd.V_elder' (by (with_reducible repeat (first | apply vA | apply vN | apply vD)); exact HO341.out) (Kd.N_base ho77) hb)
                     have n6_ := am (Kd.V_elder' (by (with_reducible repeat (first | apply vA | apply vN | apply vD)); exact HO346.out) (Kd.N_base ho77) hb)
                     have n7_ := am (Kd.N_lower ho77 (below_size (by repeat (first | (with_reducible first | exact HB.out | apply below_alloc | apply pw_below_drewN | apply below_drew1 | refine below_set ?_ GE295.out) | exact HB.out))))
                     have n8_ := am (blk_below (g := gb295) (o := .cells #[.bool a0_0, .slice A0_1 l0_1.length c0_1, .slice A0_2 l0_2.length c0_2, .slice (some ad302) l0_3.length c0_3] 27 (0, 0)) (by (with_reducible repeat (first | refine blk_drewN ?_ _ | refine blk_drew ?_ | refine blk_alloc ?_ _)); exact BK295.out) hb)
                     have n9_ := am (below_step (by repeat (first | (with_reducible first | exact HB.out | apply below_alloc | apply pw_below_drewN | apply below_drew1 | refine below_set ?_ GE295.out) | exact HB.out)) hb)
                     clear HO_3
                     clear HO_5
                     clear HO_296001
                     clear HO_296002
                     clear HO_296003
                     clear HO341
                     clear HO346
                     clear BK295
                     clear HB
                     clear HO_9
                     have HO_3 := n0_
                     have HO_5 := n1_
                     have HO_296001 := n2_
                     have HO_296002 := n3_
                     have HO_296003 := n4_
                     have HO341 := n5_
                     have HO346 := n6_
                     have HO349 := n7_
                     have BK295 := n8_
                     have HB := n9_
                     clear n0_ n1_ n2_ n3_ n4_ n5_ n6_ n7_ n8_ n9_
                     clear hb ho77
                     obtain ⟨Ao78, co78, eo78⟩ := Kd.N_slice HO349.out
                     (first | subst eo78 | (injection eo78 with f1_ f2_ f3_; have f4_ := f1_.symm; have f5_ := f3_.symm; clear f1_ f2_ f3_; subst f4_; subst f5_))
                     refine hK.out _ _ ⟨(blk_cell BK295.out 0).trans rfl, (blk_cell BK295.out 1).trans rfl, (blk_cell BK295.out 2).trans rfl, (blk_cell BK295.out 3).trans rfl⟩ (fun hHeld => ?_)
                     clear hK K
                     refine norm_ (a' := ?_) ?_ ?_
                     rotate_left
                     ·show Act.put _ (some 123) _ = _
                      simp only [Act.put, List.setIfInBounds_toArray, List.set_cons_zero, List.set_cons_succ, i64_w, i32_w]
                      rfl
                     refine one_ (i := 16) (N := some 124) #[true, true, true, true, true, true, true, true, true, true, true, true, true, true, true, true, true, false] rfl rfl (one_of HT_.out (by kernel_rfl)) (by decide) (fun K hK => ?_)
                     refine goes_ Try.func42 (by kernel_rfl) rfl #[.slice Ao78 y347.length co78] (by rfl) rfl rfl (by (try simp only [List.map_toArray, List.map_cons, List.map_nil]); first | done | rfl | (simp only [List.length_drop, List.length_take]; rfl)) ?_
                     with_reducible refine (sennitref07_Normal.calls k5 (fun k_ => (((P0_1_ k_ ∨ P0_2_ k_ ∨ P0_3_ k_) ∨ w.heap.size ≤ k_) ∧ (some k_ ≠ (.slice Ao71 x5_3.length co71 : Value).ownBlock ∧ k_ ≠ gb295))) _ _ y347 t350 _ ?side1 A70.out).mono ?_
                     (case side1 => exact Kd.N_V (HO349.out))
                     rintro e w79 ⟨v351, rfl, ho0, hb⟩
                     refine ⟨_, rfl, ?_⟩
                     have n0_ := am (Kd.V_elder' (by (with_reducible repeat (first | apply vA | apply vN | apply vD)); exact HO_3.out) (Kd.N_base ho0) hb)
                     have n1_ := am (Kd.N_elder' (by (with_reducible repeat (first | apply nA | apply nN | apply nD)); exact HO_5.out) (Kd.N_base ho0) hb)
                     have n2_ := am (Kd.V_elder' (by (with_reducible repeat (first | apply vA | apply vN | apply vD)); exact HO_296001.out) (Kd.N_base ho0) hb)
                     have n3_ := am (Kd.V_elder' (by (with_reducible repeat (first | apply vA | apply vN | apply vD)); exact HO_296002.out) (Kd.N_base ho0) hb)
                     have n4_ := am (Kd.V_elder' (by (with_reducible repeat (first | apply vA | apply vN | apply vD)); exact HO_296003.out) (Kd.N_base ho0) hb)
                     have n5_ := am (Kd.V_elder' (by (with_reducible repeat (first | apply vA | apply vN | apply vD)); exact HO341.out) (Kd.N_base ho0) hb)
                     have n6_ := am (Kd.V_elder' (by (with_reducible repeat (first | apply vA | apply vN | apply vD)); exact HO346.out) (Kd.N_base ho0) hb)
                     have n7_ := am (Kd.N_elder' (by (with_reducible repeat (first | apply nA | apply nN | apply nD)); exact HO349.out) (Kd.N_base ho0) hb)
                     have n8_ := am (Kd.N_lower (Kd.N_mono (ok' := fun k_ => ((P0_1_ k_ ∨ P0_2_ k_ ∨ P0_3_ k_) ∨ w.heap.size ≤ k_) ∧ some k_ ≠ (.slice Ao71 x5_3.length co71 : Value).ownBlock ∧ k_ ≠ gb295) ho0 (fun k_ hk_ => ⟨Or.elim hk_ (fun hs_ => hs_.1) (fun hn_ => (.inr (Nat.le_trans (below_size (by repeat (first | (with_reducible first | exact HB.out | apply below_alloc | apply pw_below_drewN | apply below_drew1 | refine below_set ?_ GE295.out) | exact HB.out))) hn_))), Or.elim hk_ (fun hs_ => hs_.2.1) (fun hn_ => (Kd.fresh' (Kd.N_lt (by (with_reducible repeat (first | apply nA | apply nN | apply nD)); exact HO_5.out)) k_ hn_)), Or.elim hk_ (fun hs_ => hs_.2.2) (fun hn_ => (Kd.freshB (g := gb295) (o := .cells #[.bool a0_0, .slice A0_1 l0_1.length c0_1, .slice A0_2 l0_2.length c0_2, .slice (some ad302) l0_3.length c0_3] 27 (0, 0)) (by (with_reducible repeat (first | refine blk_drewN ?_ _ | refine blk_drew ?_ | refine blk_alloc ?_ _)); exact BK295.out) k_ hn_))⟩)) (below_size (by repeat (first | (with_reducible first | exact HB.out | apply below_alloc | apply pw_below_drewN | apply below_drew1 | refine below_set ?_ GE295.out) | exact HB.out))))
                     have n9_ := am (blk_below (g := gb295) (o := .cells #[.bool a0_0, .slice A0_1 l0_1.length c0_1, .slice A0_2 l0_2.length c0_2, .slice (some ad302) l0_3.length c0_3] 27 (0, 0)) (by (with_reducible repeat (first | refine blk_drewN ?_ _ | refine blk_drew ?_ | refine blk_alloc ?_ _)); exact BK295.out) hb)
                     have n10_ := am (below_step (by repeat (first | (with_reducible first | exact HB.out | apply below_alloc | apply pw_below_drewN | apply below_drew1 | refine below_set ?_ GE295.out) | exact HB.out)) hb)
                     clear HO_3
                     clear HO_5
                     clear HO_296001
                     clear HO_296002
                     clear HO_296003
                     clear HO341
                     clear HO346
                     clear HO349
                     clear BK295
                     clear HB
                     have HO_3 := n0_
                     have HO_5 := n1_
                     have HO_296001 := n2_
                     have HO_296002 := n3_
                     have HO_296003 := n4_
                     have HO341 := n5_
                     have HO346 := n6_
                     have HO349 := n7_
                     have HO352 := n8_
                     have BK295 := n9_
                     have HB := n10_
                     clear n0_ n1_ n2_ n3_ n4_ n5_ n6_ n7_ n8_ n9_ n10_
                     (try clear hb)
                     (try clear hb2)
                     (try clear hk)
                     (try clear hi)
                     (try clear ho0)
                     refine hK.out _ _ ⟨(blk_cell BK295.out 0).trans rfl, (blk_cell BK295.out 1).trans rfl, (blk_cell BK295.out 2).trans rfl, (blk_cell BK295.out 3).trans rfl⟩ (fun hHeld => ?_)
                     clear hK K
                     refine norm_ (a' := ?_) ?_ ?_
                     rotate_left
                     ·show Act.put _ (some 124) _ = _
                      simp only [Act.put, List.setIfInBounds_toArray, List.set_cons_zero, List.set_cons_succ, i64_w, i32_w]
                      rfl
                     refine pure_ (i := 17) (N := some 2) (v := ?_) (a' := ?_) #[true, true, true, true, true, true, true, true, true, true, true, true, true, true, true, true, true, true] rfl rfl (any_of HT_.out (by kernel_rfl)) (fun _ _ _ h => h) (Or.inl ⟨by rfl, ?_⟩) ?_ ?_
                     rotate_left
                     ·intro w'
                      go_simp
                      with_reducible rfl
                     rotate_left
                     ·simp only [Act.put, List.setIfInBounds_toArray, List.set_cons_zero, List.set_cons_succ, i64_w, i32_w]
                      rfl
                     refine done_ (done_of HT_.out (by kernel_rfl)) ?_
                     try go_wp2
                     go_ret
                     exact ⟨_, by first | rfl | (simp [errW_none, errW_some] <;> rfl) | (simp only [← hji67]; first | rfl | (simp [errW_none, errW_some] <;> rfl)) | (simp [*, errW_none, errW_some] <;> rfl), by (with_reducible repeat (first | apply nA | apply nN | apply nD)); exact Kd.N_mono HO352.out (fun _ hk => hk.1), by repeat (first | (with_reducible first | exact HB.out | apply below_alloc | apply pw_below_drewN | apply below_drew1 | refine below_set ?_ GE295.out) | exact HB.out)⟩
                    ·rw [if_neg c69] at H
                     exact absurd H (by simp)
                   ·rw [if_neg c68] at H
                    exact absurd H (by simp)
                  ·rw [if_neg c66] at H
                   exact absurd H (by simp)
                 ·rw [if_neg c65] at H
                  exact absurd H (by simp)
     ·rw [if_neg c15] at H
      exact absurd H (by simp)
    ·rw [if_neg c14] at H
     exact absurd H (by simp)

end Go.Proofs.Ytiaoppikdgoieaa.M
namespace Go.Proofs.Ytiaoppikdgoieaa.M
open Go.RowKit Go.Proofs.YtiaoppikdgoieaaW.PrintWords Go.Proofs.YtiaoppikdgoieaaW.PrintLast Go.Proofs.YtiaoppikdgoieaaW.PrintMore
attribute [local go_sem] max2_int min2_int max_two min_two max_three min_three max_four min_four
set_option linter.unusedVariables false
set_option linter.unusedSimpArgs false

/-! ### sennitref10_Zeal: function 39 -/
def sennitref10_Zeal.l0 : Nat → List (S27) → List (S27) → Int → Option ((List (S27)))
  | 0, _, _, _ => none
  | k + 1, x0, x3, x4 => if x4 < (x0.length : Int) then (if 0 ≤ x4 then ((sennitref10_Trim.f k ((rd_T27 x0 x4).f0) ((rd_T27 x0 x4).f1) ((rd_T27 x0 x4).f2) ((rd_T27 x0 x4).f3)).bind fun t354 => (if x3.length + t354.length < 1759218604441 then (sennitref10_Zeal.l0 k x0 (x3 ++ t354) (wrap64 (x4 + 1))) else (none))) else (none)) else ((sennitref07_Normal.f k x3).bind fun t360 => (some t360))
def sennitref10_Zeal.f (k : Nat) (l0 : List (S27)) : Option ((List (S27))) := sennitref10_Zeal.l0 k l0 ([] : List (S27)) 0
theorem sennitref10_Zeal.mono_l : ∀ k, (∀ y0 y1 y2, LeO (sennitref10_Zeal.l0 k y0 y1 y2) (sennitref10_Zeal.l0 (k + 1) y0 y1 y2))
  | 0 => fun _ _ _ r h => by simp [sennitref10_Zeal.l0] at h
  | k + 1 => by
    have ih0 := sennitref10_Zeal.mono_l k
    · intro y0 y1 y2
      unfold sennitref10_Zeal.l0
      repeat' first
      | (with_reducible exact ih0 _ _ _)
      | (with_reducible exact sennitref07_Normal.mono _ _)
      | (with_reducible exact sennitref10_Trim.mono _ _ _ _ _)
      | (with_reducible exact LeO.refl _)
      | (with_reducible exact LeO.none _)
      | (with_reducible refine LeO.ite ?_ ?_)
      | (with_reducible refine LeO.bind ?_ (fun _ => ?_))
      | exact ih0 _ _ _
      | exact sennitref07_Normal.mono _ _
      | exact sennitref10_Trim.mono _ _ _ _ _
      | exact LeO.none _
      | refine LeO.ite ?_ ?_
      | refine LeO.bind ?_ (fun _ => ?_)
theorem sennitref10_Zeal.mono : ∀ a0 k, LeO (sennitref10_Zeal.f k a0) (sennitref10_Zeal.f (k + 1) a0) := by
  intro a0 k
  have ih0 := sennitref10_Zeal.mono_l k
  unfold sennitref10_Zeal.f
  repeat' first
      | (with_reducible exact ih0 _ _ _)
      | (with_reducible exact sennitref07_Normal.mono _ _)
      | (with_reducible exact sennitref10_Trim.mono _ _ _ _ _)
      | (with_reducible exact LeO.refl _)
      | (with_reducible exact LeO.none _)
      | (with_reducible refine LeO.ite ?_ ?_)
      | (with_reducible refine LeO.bind ?_ (fun _ => ?_))
      | exact ih0 _ _ _
      | exact sennitref07_Normal.mono _ _
      | exact sennitref10_Trim.mono _ _ _ _ _
      | exact LeO.none _
      | refine LeO.ite ?_ ?_
      | refine LeO.bind ?_ (fun _ => ?_)
set_option maxHeartbeats 8000000 in
set_option maxRecDepth 100000 in
theorem sennitref10_Zeal.calls (k : Nat) (P0_ : Nat → Prop) (A0 : Option Addr) (c0 : Nat) (l0 : List (S27)) (r : List (S27)) (w : World) (hs0 : Kd.V k27 27 w w.heap.size (fun k_ => P0_ k_) (.slice A0 l0.length c0) l0) (h : sennitref10_Zeal.f k l0 = some r) :
    Calls Try.prog 39 #[.slice A0 l0.length c0] w fun e w' => ∃ v0_ : Value, e = .returned (v0_) ∧ Kd.N k27 27 w' w.heap.size (fun k_ => (P0_ k_ ∨ w.heap.size ≤ k_)) v0_ r ∧ Below w.heap.size w w' := by
  have hu27 := Try.underlying27
  have HO0 := Aside0.mk (show Kd.V k27 27 w w.heap.size (fun k_ => (P0_ k_ ∨ w.heap.size ≤ k_)) (.slice A0 l0.length c0) l0 from Kd.V_mono hs0 (fun k_ hk => .inl hk))
  have HB := Aside0.mk (Below.refl w.heap.size w)
  have H : (sennitref10_Zeal.l0 k l0 ([] : List (S27)) 0) = some r := h
  clear h
  have H' := Aside0.mk H
  clear H
  go_enter Try.func39, Try.ntmps39
  go_wp2
  go_loopg [3, 4] k (fun kq v3 v4 w' => ∃ (x3_1 : List (S27)) (x4_1 : Int), v4 = .int .i64 x4_1 ∧ Aside0 (sennitref10_Zeal.l0 kq l0 x3_1 x4_1 = some r) ∧ Aside0 (kq ≤ k) ∧ Aside0 (Kd.V k27 27 w' w.heap.size (fun k_ => (P0_ k_ ∨ w.heap.size ≤ k_) ∧ some k_ ≠ (v3 : Value).ownBlock) (.slice A0 l0.length c0) l0) ∧ Aside0 (Kd.N k27 27 w' w.heap.size (fun k_ => (P0_ k_ ∨ w.heap.size ≤ k_)) v3 x3_1) ∧ Aside0 (Below w.heap.size w w'))
  case atStart => exact ⟨(([] : List (S27))), (0), (by first | rfl | (simp; done) | (simp [*]; done)), H', ⟨Nat.le_refl _⟩, ⟨by (with_reducible repeat (first | apply Kd.V_alloc | apply Kd.V_drewN | apply Kd.V_drew)); exact Kd.V_mono HO0.out (fun _ hk => ⟨hk, (by simp [Value.ownBlock])⟩)⟩, ⟨by first | exact Kd.R_nil _ _ _ _ _ | exact Kd.N_nil _ _ _ _ _ | exact Kd.V_nil _ _ _ _ _ | exact Kd.Q_nil _ _ _ _ _ | exact Kd.S_nil _ _ _ _ _⟩, ⟨by repeat (first | (with_reducible first | exact HB.out | apply below_alloc | apply pw_below_drewN | apply below_drew1) | exact HB.out)⟩⟩
  case round =>
    clear H'
    obtain ⟨x3_1, x4_1, rfl, HA, HK1, HO_0, HO_3, HB⟩ := hrel
    cases gk with
    | zero => exact absurd HA.out (by simp [sennitref10_Zeal.l0])
    | succ k1 =>
      have H := HA.out
      clear HA
      simp only [sennitref10_Zeal.l0] at H
      by_cases c2 : x4_1 < (l0.length : Int)
      · rw [if_pos c2] at H
        have c2b0 : decide (x4_1 < (l0.length : Int)) = true := decide_eq_true c2
        clear c2
        by_cases c3 : 0 ≤ x4_1
        · rw [if_pos c3] at H
          have c3b0 : decide (0 ≤ x4_1) = true := decide_eq_true c3
          clear c3
          replace H := Option.bind_eq_some_iff.mp H
          obtain ⟨t354, A40, H⟩ := H
          replace H : (if x3_1.length + t354.length < 1759218604441 then (sennitref10_Zeal.l0 k1 l0 (x3_1 ++ t354) (wrap64 (x4_1 + 1))) else (none)) = some r := H
          have A4 := Aside0.mk A40
          clear A40
          by_cases c5 : x3_1.length + t354.length < 1759218604441
          · rw [if_pos c5] at H
            have LMc5 := Aside0.mk c5
            clear c5
            obtain ⟨y357, hy357⟩ : ∃ y_ : List (S27), y_ = (x3_1 ++ t354) := ⟨_, rfl⟩
            replace H : (sennitref10_Zeal.l0 k1 l0 y357 (wrap64 (x4_1 + 1))) = some r := by first | (rw [hy357]; with_reducible exact H) | (have H2_ := (Option.bind_some _ _).symm.trans H; rw [hy357]; with_reducible exact H2_) | (have H2_ := (Option.bind_some _ _).symm.trans H; with_reducible exact H2_) | with_reducible exact H | (rw [hy357]; exact H) | exact H
            have Ny357 := Aside0.mk hy357
            clear hy357
            have H' := Aside0.mk H
            clear H
            have p353 : 0 ≤ (x4_1 : Int) := of_decide_eq_true (by first | (with_reducible assumption) | assumption)
            have q353 : x4_1 < (l0.length : Int) := of_decide_eq_true (by first | (with_reducible assumption) | assumption)
            obtain ⟨ad353, A353_1, c353_1, A353_2, c353_2, A353_3, c353_3, e353, hx353_0, hx353_1, hx353_2, hx353_3, hl353_1, hi353_1, hl353_2, hi353_2, hl353_3, hi353_3⟩ := at_T27 (Kd.V_reads' HO_0.out).2.2 x4_1 p353 q353
            cases e353
            obtain ⟨ce353, hce353, hMe353, hcc353⟩ := Kd.V_get HO_0.out z27 x4_1 p353 (by first | exact q353 | exact of_decide_eq_true (by first | (with_reducible assumption) | assumption) | (have e_ := (Kd.V_reads' HO_0.out).1; omega))
            obtain ⟨ua353_1, uc353_1, ua353_2, uc353_2, ua353_3, uc353_3, rfl, ul353_1, ge353_1, ul353_2, ge353_2, ul353_3, ge353_3⟩ := k27_openF hMe353
            have hv353_1 := hcc353 1 _ rfl
            rw [add_field _ _ 1 (by omega)] at hv353_1
            replace hv353_1 := Option.some.inj (hv353_1.symm.trans hx353_1)
            injection hv353_1 with hva_ hvn_ hvc_
            rw [hva_] at ge353_1
            rw [hvc_] at ul353_1
            have HL353_1 := Aside0.mk (show Kd.V Kd.string 9 _ w.heap.size _ _ ((rd_T27 l0 x4_1).f1) from Kd.V_mk ul353_1 ge353_1)
            clear hva_ hvn_ hvc_ ge353_1 ul353_1
            have hv353_2 := hcc353 2 _ rfl
            rw [add_field _ _ 2 (by omega)] at hv353_2
            replace hv353_2 := Option.some.inj (hv353_2.symm.trans hx353_2)
            injection hv353_2 with hva_ hvn_ hvc_
            rw [hva_] at ge353_2
            rw [hvc_] at ul353_2
            have HL353_2 := Aside0.mk (show Kd.V Kd.string 9 _ w.heap.size _ _ ((rd_T27 l0 x4_1).f2) from Kd.V_mk ul353_2 ge353_2)
            clear hva_ hvn_ hvc_ ge353_2 ul353_2
            have hv353_3 := hcc353 3 _ rfl
            rw [add_field _ _ 3 (by omega)] at hv353_3
            replace hv353_3 := Option.some.inj (hv353_3.symm.trans hx353_3)
            injection hv353_3 with hva_ hvn_ hvc_
            rw [hva_] at ge353_3
            rw [hvc_] at ul353_3
            have HL353_3 := Aside0.mk (show Kd.V (Kd.slice 9 Kd.string) 22 _ w.heap.size _ _ ((rd_T27 l0 x4_1).f3) from Kd.V_mk ul353_3 ge353_3)
            clear hva_ hvn_ hvc_ ge353_3 ul353_3
            clear hcc353 hce353
            have HR353_1 := Aside0.mk hi353_1
            have HC353_1 := Aside0.mk hl353_1
            clear hi353_1 hl353_1
            have HR353_2 := Aside0.mk hi353_2
            have HC353_2 := Aside0.mk hl353_2
            clear hi353_2 hl353_2
            have HR353_3 := Aside0.mk hi353_3
            have HC353_3 := Aside0.mk hl353_3
            clear hi353_3 hl353_3
            replace p353 := eq_true p353
            replace q353 := eq_true q353
            go_wp2_with (first | ((with_reducible refine gate_callee (f := 37) rfl ?_); refine goesL_ (some 16) rfl rfl Try.func37 (by kernel_rfl) rfl #[.agg #[.bool ((rd_T27 l0 x4_1).f0), .slice A353_1 ((rd_T27 l0 x4_1).f1).length c353_1, .slice A353_2 ((rd_T27 l0 x4_1).f2).length c353_2, .slice A353_3 ((rd_T27 l0 x4_1).f3).length c353_3]] rfl (by (try simp only [List.map_toArray, List.map_cons, List.map_nil]); first | done | rfl | (simp only [List.length_drop, List.length_take]; rfl)) ?_; (with_reducible refine (sennitref10_Trim.calls k1 ((rd_T27 l0 x4_1).f0) (fun k_ => ((P0_ k_ ∨ w.heap.size ≤ k_) ∧ some k_ ≠ (u3 : Value).ownBlock)) _ _ ((rd_T27 l0 x4_1).f1) (fun k_ => ((P0_ k_ ∨ w.heap.size ≤ k_) ∧ some k_ ≠ (u3 : Value).ownBlock)) _ _ ((rd_T27 l0 x4_1).f2) (fun k_ => ((P0_ k_ ∨ w.heap.size ≤ k_) ∧ some k_ ≠ (u3 : Value).ownBlock)) _ _ ((rd_T27 l0 x4_1).f3) t354 _ ?side1 ?side2 ?side3 A4.out).mono ?_); (case side1 => exact HL353_1.out); (case side2 => exact HL353_2.out); (case side3 => exact HL353_3.out); rintro e w6 ⟨v355, rfl, ho0, hb⟩; refine ⟨_, rfl, ?_⟩; have n0_ := Aside0.mk (Kd.V_elder' (by (with_reducible repeat (first | apply Kd.V_alloc | apply Kd.V_drewN | apply Kd.V_drew)); exact HO_0.out) (Kd.N_base ho0) hb); have n1_ := Aside0.mk (Kd.N_elder' (by (with_reducible repeat (first | apply Kd.N_alloc | apply Kd.N_drewN | apply Kd.N_drew)); exact HO_3.out) (Kd.N_base ho0) hb); have n2_ := Aside0.mk (Kd.V_elder' (by (with_reducible repeat (first | apply Kd.V_alloc | apply Kd.V_drewN | apply Kd.V_drew)); exact HL353_1.out) (Kd.N_base ho0) hb); have n3_ := Aside0.mk (Kd.V_elder' (by (with_reducible repeat (first | apply Kd.V_alloc | apply Kd.V_drewN | apply Kd.V_drew)); exact HL353_2.out) (Kd.N_base ho0) hb); have n4_ := Aside0.mk (Kd.V_elder' (by (with_reducible repeat (first | apply Kd.V_alloc | apply Kd.V_drewN | apply Kd.V_drew)); exact HL353_3.out) (Kd.N_base ho0) hb); have n5_ := Aside0.mk (Kd.N_lower (Kd.N_mono (ok' := fun k_ => (P0_ k_ ∨ w.heap.size ≤ k_) ∧ some k_ ≠ (u3 : Value).ownBlock) ho0 (fun k_ hk_ => ⟨Or.elim hk_ (fun hs_ => Or.elim hs_ (fun hs_ => hs_.1) (fun hs_ => Or.elim hs_ (fun hs_ => hs_.1) (fun hs_ => hs_.1))) (fun hn_ => (.inr (Nat.le_trans (below_size (by repeat (first | (with_reducible first | exact HB.out | apply below_alloc | apply pw_below_drewN | apply below_drew1) | exact HB.out))) hn_))), Or.elim hk_ (fun hs_ => Or.elim hs_ (fun hs_ => hs_.2) (fun hs_ => Or.elim hs_ (fun hs_ => hs_.2) (fun hs_ => hs_.2))) (fun hn_ => (Kd.fresh' (Kd.N_lt (by (with_reducible repeat (first | apply Kd.N_alloc | apply Kd.N_drewN | apply Kd.N_drew)); exact HO_3.out)) k_ hn_))⟩)) (below_size (by repeat (first | (with_reducible first | exact HB.out | apply below_alloc | apply pw_below_drewN | apply below_drew1) | exact HB.out)))); have n6_ := Aside0.mk trivial; have n7_ := Aside0.mk trivial; have n8_ := Aside0.mk trivial; have n9_ := Aside0.mk (below_step (by repeat (first | (with_reducible first | exact HB.out | apply below_alloc | apply pw_below_drewN | apply below_drew1) | exact HB.out)) hb); clear HO_0; clear HO_3; clear HL353_1; clear HL353_2; clear HL353_3; clear HR353_1; clear HR353_2; clear HR353_3; clear HB; have HO_0 := n0_; have HO_3 := n1_; have HL353_1 := n2_; have HL353_2 := n3_; have HL353_3 := n4_; have HO356 := n5_; have HR353_1 := n6_; have HR353_2 := n7_; have HR353_3 := n8_; have HB := n9_; clear n0_ n1_ n2_ n3_ n4_ n5_ n6_ n7_ n8_ n9_; (try clear hb); (try clear hb2); (try clear hk); (try clear hi); (try clear ho0); obtain ⟨Ao8, co8, eo8⟩ := Kd.N_slice HO356.out; subst eo8) | ((with_reducible refine gate_builtin (b := .append) (xs := #[.tmp 11, .tmp 16]) rfl ?_); at_builtin; refine Kd.N_append_rows k27 (w0 := w) w.heap.size rfl (.tmp 11) (.tmp 16) 48 27 (.agg #[(.bool false), (.slice none 0 0), (.slice none 0 0), (.slice none 0 0)]) 80 rfl Try.underlying48 info27 rfl (by decide) (by omega) u3 x3_1 t354 _ _ _ (fun k_ => (P0_ k_ ∨ w.heap.size ≤ k_)) (fun k_ => ((fun k_ => (P0_ k_ ∨ w.heap.size ≤ k_))) k_ ∧ some k_ ≠ (u3 : Value).ownBlock) rfl rfl ?aO ?aR (fun _ hk => hk) ?aF ?aB ?aS ?aL ?_; (case aR => exact (by skip; exact Kd.N_F (Kd.N_mono (ok' := (fun k_ => ((fun k_ => (P0_ k_ ∨ w.heap.size ≤ k_))) k_ ∧ some k_ ≠ (u3 : Value).ownBlock)) (HO356.out) (fun k_ hk => ⟨hk.1, hk.2⟩)))); (case aB => exact (by repeat (first | (with_reducible first | exact HB.out | apply below_alloc | apply pw_below_drewN | apply below_drew1) | exact HB.out))); (case aF => exact (fun k_ hk => (.inr (Nat.le_trans (below_size (by repeat (first | (with_reducible first | exact HB.out | apply below_alloc | apply pw_below_drewN | apply below_drew1) | exact HB.out))) hk)))); (case aO => exact (by (with_reducible repeat (first | apply Kd.N_alloc | apply Kd.N_drewN | apply Kd.N_drew)); exact Kd.N_mono HO_3.out (fun _ hk => hk.1))); (case aS => exact (below_size (by repeat (first | (with_reducible first | exact HB.out | apply below_alloc | apply pw_below_drewN | apply below_drew1) | exact HB.out)))); (case aL => have := LMc5.out; omega); intro v358 w7 ho hb hg hat; rw [← Ny357.out] at ho; have n0_ := Aside0.mk (Kd.V_afterv (ok := (fun k_ => (P0_ k_ ∨ w.heap.size ≤ k_) ∧ some k_ ≠ (.slice Ao8 t354.length co8 : Value).ownBlock)) (by (with_reducible repeat (first | apply Kd.V_alloc | apply Kd.V_drewN | apply Kd.V_drew)); exact Kd.V_mono HO_0.out (fun _ hk => ⟨⟨hk.1.1, hk.2⟩, hk.1.2⟩)) hg hat); have n1_ := Aside0.mk (Kd.V_afterv (ok := (fun k_ => (P0_ k_ ∨ w.heap.size ≤ k_) ∧ some k_ ≠ (.slice Ao8 t354.length co8 : Value).ownBlock)) (by (with_reducible repeat (first | apply Kd.V_alloc | apply Kd.V_drewN | apply Kd.V_drew)); exact Kd.V_mono HL353_1.out (fun _ hk => ⟨⟨hk.1.1, hk.2⟩, hk.1.2⟩)) hg hat); have n2_ := Aside0.mk (Kd.V_afterv (ok := (fun k_ => (P0_ k_ ∨ w.heap.size ≤ k_) ∧ some k_ ≠ (.slice Ao8 t354.length co8 : Value).ownBlock)) (by (with_reducible repeat (first | apply Kd.V_alloc | apply Kd.V_drewN | apply Kd.V_drew)); exact Kd.V_mono HL353_2.out (fun _ hk => ⟨⟨hk.1.1, hk.2⟩, hk.1.2⟩)) hg hat); have n3_ := Aside0.mk (Kd.V_afterv (ok := (fun k_ => (P0_ k_ ∨ w.heap.size ≤ k_) ∧ some k_ ≠ (.slice Ao8 t354.length co8 : Value).ownBlock)) (by (with_reducible repeat (first | apply Kd.V_alloc | apply Kd.V_drewN | apply Kd.V_drew)); exact Kd.V_mono HL353_3.out (fun _ hk => ⟨⟨hk.1.1, hk.2⟩, hk.1.2⟩)) hg hat); have n4_ := Aside0.mk (Kd.N_afterv (ok := (fun k_ => (P0_ k_ ∨ w.heap.size ≤ k_))) (by (with_reducible repeat (first | apply Kd.N_alloc | apply Kd.N_drewN | apply Kd.N_drew)); exact HO356.out) hg hat); have n5_ := Aside0.mk (hb); have n6_ := Aside0.mk (ho); clear HO_0; clear HL353_1; clear HL353_2; clear HL353_3; clear HO356; clear HB; clear HO_3; have HO_0 := n0_; have HL353_1 := n1_; have HL353_2 := n2_; have HL353_3 := n3_; have HO356 := n4_; have HB := n5_; have HO359 := n6_; clear n0_ n1_ n2_ n3_ n4_ n5_ n6_; clear ho hb hg hat))
            go_roundg k1
            case measure => have := HK1.out; omega
            case rel => exact ⟨(y357), (wrap64 (x4_1 + 1)), (by first | rfl | (simp; done) | (simp [*]; done)), H', ⟨by have := HK1.out; omega⟩, ⟨by (with_reducible repeat (first | apply Kd.V_alloc | apply Kd.V_drewN | apply Kd.V_drew)); exact Kd.V_mono HO_0.out (fun _ hk => ⟨hk.1.1, hk.2⟩)⟩, ⟨by (with_reducible repeat (first | apply Kd.N_alloc | apply Kd.N_drewN | apply Kd.N_drew)); exact HO359.out⟩, ⟨by repeat (first | (with_reducible first | exact HB.out | apply below_alloc | apply pw_below_drewN | apply below_drew1) | exact HB.out)⟩⟩
          · rw [if_neg c5] at H
            exact absurd H (by simp)
        · rw [if_neg c3] at H
          exact absurd H (by simp)
      · rw [if_neg c2] at H
        have c2b0 : decide (x4_1 < (l0.length : Int)) = false := decide_eq_false c2
        clear c2
        replace H := Option.bind_eq_some_iff.mp H
        obtain ⟨t360, A90, H⟩ := H
        replace H : (some t360) = some r := H
        have A9 := Aside0.mk A90
        clear A90
        obtain rfl := Option.some.inj H
        obtain ⟨Ao10, co10, eo10⟩ := Kd.N_slice HO_3.out
        subst eo10
        go_wp2_with (first | ((with_reducible refine gate_callee (f := 42) rfl ?_); refine goesL_ (some 19) rfl rfl Try.func42 (by kernel_rfl) rfl #[.slice Ao10 x3_1.length co10] rfl (by (try simp only [List.map_toArray, List.map_cons, List.map_nil]); first | done | rfl | (simp only [List.length_drop, List.length_take]; rfl)) ?_; (with_reducible refine (sennitref07_Normal.calls k1 (fun k_ => (P0_ k_ ∨ w.heap.size ≤ k_)) _ _ x3_1 t360 _ ?side1 A9.out).mono ?_); (case side1 => exact Kd.N_V (HO_3.out)); rintro e w11 ⟨v361, rfl, ho0, hb⟩; refine ⟨_, rfl, ?_⟩; have n0_ := Aside0.mk (Kd.V_elder' (by (with_reducible repeat (first | apply Kd.V_alloc | apply Kd.V_drewN | apply Kd.V_drew)); exact HO_0.out) (Kd.N_base ho0) hb); have n1_ := Aside0.mk (Kd.N_elder' (by (with_reducible repeat (first | apply Kd.N_alloc | apply Kd.N_drewN | apply Kd.N_drew)); exact HO_3.out) (Kd.N_base ho0) hb); have n2_ := Aside0.mk (Kd.N_lower (Kd.N_mono (ok' := fun k_ => (P0_ k_ ∨ w.heap.size ≤ k_)) ho0 (fun k_ hk_ => Or.elim hk_ (fun hs_ => hs_) (fun hn_ => (.inr (Nat.le_trans (below_size (by repeat (first | (with_reducible first | exact HB.out | apply below_alloc | apply pw_below_drewN | apply below_drew1) | exact HB.out))) hn_))))) (below_size (by repeat (first | (with_reducible first | exact HB.out | apply below_alloc | apply pw_below_drewN | apply below_drew1) | exact HB.out)))); have n3_ := Aside0.mk (below_step (by repeat (first | (with_reducible first | exact HB.out | apply below_alloc | apply pw_below_drewN | apply below_drew1) | exact HB.out)) hb); clear HO_0; clear HO_3; clear HB; have HO_0 := n0_; have HO_3 := n1_; have HO362 := n2_; have HB := n3_; clear n0_ n1_ n2_ n3_; (try clear hb); (try clear hb2); (try clear hk); (try clear hi); (try clear ho0)))
        go_ret
        exact ⟨_, by first | rfl | (simp [errW_none, errW_some] <;> rfl) | (simp [*, errW_none, errW_some] <;> rfl), by (with_reducible repeat (first | apply Kd.N_alloc | apply Kd.N_drewN | apply Kd.N_drew)); exact HO362.out, by repeat (first | (with_reducible first | exact HB.out | apply below_alloc | apply pw_below_drewN | apply below_drew1) | exact HB.out)⟩

end Go.Proofs.Ytiaoppikdgoieaa.M
namespace Go.Proofs.Ytiaoppikdgoieaa.M
open Go.RowKit Go.Proofs.YtiaoppikdgoieaaW.PrintWords Go.Proofs.YtiaoppikdgoieaaW.PrintLast Go.Proofs.YtiaoppikdgoieaaW.PrintMore
attribute [local go_sem] max2_int min2_int max_two min_two max_three min_three max_four min_four
set_option linter.unusedVariables false
set_option linter.unusedSimpArgs false

/-! ### sennitref07_Clean: function 41 -/
def sennitref07_Clean.l0 : Nat → List (S27) → Int → Option (Bool)
  | 0, _, _ => none
  | k + 1, x0, x3 => if x3 < (x0.length : Int) then (if 0 ≤ x3 then (if (rd_T27 x0 x3).f0 = true then (some false) else (sennitref07_Clean.l0 k x0 (wrap64 (x3 + 1)))) else (none)) else (some true)
def sennitref07_Clean.f (k : Nat) (l0 : List (S27)) : Option (Bool) := sennitref07_Clean.l0 k l0 0
theorem sennitref07_Clean.mono_l : ∀ k, (∀ y0 y1, LeO (sennitref07_Clean.l0 k y0 y1) (sennitref07_Clean.l0 (k + 1) y0 y1))
  | 0 => fun _ _ r h => by simp [sennitref07_Clean.l0] at h
  | k + 1 => by
    have ih0 := sennitref07_Clean.mono_l k
    · intro y0 y1
      unfold sennitref07_Clean.l0
      repeat' first
      | (with_reducible exact ih0 _ _)
      | (with_reducible exact LeO.refl _)
      | (with_reducible exact LeO.none _)
      | (with_reducible refine LeO.ite ?_ ?_)
      | (with_reducible refine LeO.bind ?_ (fun _ => ?_))
      | exact ih0 _ _
      | exact LeO.none _
      | refine LeO.ite ?_ ?_
      | refine LeO.bind ?_ (fun _ => ?_)
theorem sennitref07_Clean.mono : ∀ a0 k, LeO (sennitref07_Clean.f k a0) (sennitref07_Clean.f (k + 1) a0) := by
  intro a0 k
  have ih0 := sennitref07_Clean.mono_l k
  unfold sennitref07_Clean.f
  repeat' first
      | (with_reducible exact ih0 _ _)
      | (with_reducible exact LeO.refl _)
      | (with_reducible exact LeO.none _)
      | (with_reducible refine LeO.ite ?_ ?_)
      | (with_reducible refine LeO.bind ?_ (fun _ => ?_))
      | exact ih0 _ _
      | exact LeO.none _
      | refine LeO.ite ?_ ?_
      | refine LeO.bind ?_ (fun _ => ?_)
set_option maxHeartbeats 8000000 in
set_option maxRecDepth 100000 in
theorem sennitref07_Clean.calls (k : Nat) (A0 : Option Addr) (c0 : Nat) (l0 : List (S27)) (r : Bool) (w : World) (hr0 : Kd.C k27 w A0 l0.length l0) (hc0 : l0.length ≤ c0) (h : sennitref07_Clean.f k l0 = some r) :
    Calls Try.prog 41 #[.slice A0 l0.length c0] w fun e w' => e = .returned (.bool r) ∧ Drawn0 w w' := by
  have HR0 := Aside0.mk hr0
  have HC0 := Aside0.mk hc0
  clear hr0 hc0
  have H : (sennitref07_Clean.l0 k l0 0) = some r := h
  clear h
  have H' := Aside0.mk H
  clear H
  go_enter Try.func41, Try.ntmps41
  go_wp2
  go_loopg [3] k (fun kq v3 w' => ∃ (x3_1 : Int), v3 = .int .i64 x3_1 ∧ Aside0 (sennitref07_Clean.l0 kq l0 x3_1 = some r) ∧ Aside0 (kq ≤ k) ∧ Drawn0 w w')
  case atStart => exact ⟨(0), (by first | rfl | (simp; done) | (simp [*]; done)), H', ⟨Nat.le_refl _⟩, by repeat (first | exact Drawn0.refl _ | apply Drawn0.step)⟩
  case round =>
    clear H'
    obtain ⟨x3_1, rfl, HA, HK1, ⟨m1, rfl⟩⟩ := hrel
    cases gk with
    | zero => exact absurd HA.out (by simp [sennitref07_Clean.l0])
    | succ k1 =>
      have H := HA.out
      clear HA
      simp only [sennitref07_Clean.l0] at H
      by_cases c2 : x3_1 < (l0.length : Int)
      · rw [if_pos c2] at H
        have c2b0 : decide (x3_1 < (l0.length : Int)) = true := decide_eq_true c2
        clear c2
        by_cases c3 : 0 ≤ x3_1
        · rw [if_pos c3] at H
          have c3b0 : decide (0 ≤ x3_1) = true := decide_eq_true c3
          clear c3
          obtain ⟨bq4, hbq4⟩ : ∃ b_ : Bool, b_ = ((rd_T27 l0 x3_1).f0) := ⟨_, rfl⟩
          replace H : (if bq4 = true then (some false) else (sennitref07_Clean.l0 k1 l0 (wrap64 (x3_1 + 1)))) = some r := by rw [← hbq4] at H; exact H
          have Nbq4 := Aside0.mk hbq4
          clear hbq4
          by_cases c5 : bq4 = true
          · subst c5
            have H1 : (some false) = some r := by rw [if_pos rfl] at H; exact H
            clear H
            have H := H1
            clear H1
            obtain rfl := Option.some.inj H
            have p513 : 0 ≤ (x3_1 : Int) := of_decide_eq_true (by first | (with_reducible assumption) | assumption)
            have q513 : x3_1 < (l0.length : Int) := of_decide_eq_true (by first | (with_reducible assumption) | assumption)
            obtain ⟨ad513, A513_1, c513_1, A513_2, c513_2, A513_3, c513_3, e513, hx513_0, hx513_1, hx513_2, hx513_3, hl513_1, hi513_1, hl513_2, hi513_2, hl513_3, hi513_3⟩ := at_T27 HR0.out x3_1 p513 q513
            (try rw [← Nbq4.out] at hx513_0)
            cases e513
            have HR513_1 := Aside0.mk hi513_1
            have HC513_1 := Aside0.mk hl513_1
            clear hi513_1 hl513_1
            have HR513_2 := Aside0.mk hi513_2
            have HC513_2 := Aside0.mk hl513_2
            clear hi513_2 hl513_2
            have HR513_3 := Aside0.mk hi513_3
            have HC513_3 := Aside0.mk hl513_3
            clear hi513_3 hl513_3
            replace p513 := eq_true p513
            replace q513 := eq_true q513
            go_wp2
            go_ret
            exact ⟨by first | rfl | (simp; done) | (simp [*]; done), by repeat (first | exact Drawn0.refl _ | apply Drawn0.step)⟩
          · replace c5 := Bool.eq_false_iff.mpr c5
            subst c5
            have H1 : (sennitref07_Clean.l0 k1 l0 (wrap64 (x3_1 + 1))) = some r := by rw [if_neg (show ¬ (false = true) by decide)] at H; exact H
            clear H
            have H := H1
            clear H1
            have H' := Aside0.mk H
            clear H
            have p513 : 0 ≤ (x3_1 : Int) := of_decide_eq_true (by first | (with_reducible assumption) | assumption)
            have q513 : x3_1 < (l0.length : Int) := of_decide_eq_true (by first | (with_reducible assumption) | assumption)
            obtain ⟨ad513, A513_1, c513_1, A513_2, c513_2, A513_3, c513_3, e513, hx513_0, hx513_1, hx513_2, hx513_3, hl513_1, hi513_1, hl513_2, hi513_2, hl513_3, hi513_3⟩ := at_T27 HR0.out x3_1 p513 q513
            (try rw [← Nbq4.out] at hx513_0)
            cases e513
            have HR513_1 := Aside0.mk hi513_1
            have HC513_1 := Aside0.mk hl513_1
            clear hi513_1 hl513_1
            have HR513_2 := Aside0.mk hi513_2
            have HC513_2 := Aside0.mk hl513_2
            clear hi513_2 hl513_2
            have HR513_3 := Aside0.mk hi513_3
            have HC513_3 := Aside0.mk hl513_3
            clear hi513_3 hl513_3
            replace p513 := eq_true p513
            replace q513 := eq_true q513
            go_wp2
            go_roundg k1
            case measure => have := HK1.out; omega
            case rel => exact ⟨(wrap64 (x3_1 + 1)), (by first | rfl | (simp; done) | (simp [*]; done)), H', ⟨by have := HK1.out; omega⟩, by repeat (first | exact Drawn0.refl _ | apply Drawn0.step)⟩
        · rw [if_neg c3] at H
          exact absurd H (by simp)
      · rw [if_neg c2] at H
        have c2b0 : decide (x3_1 < (l0.length : Int)) = false := decide_eq_false c2
        clear c2
        obtain rfl := Option.some.inj H
        go_wp2
        go_ret
        exact ⟨by first | rfl | (simp; done) | (simp [*]; done), by repeat (first | exact Drawn0.refl _ | apply Drawn0.step)⟩

end Go.Proofs.Ytiaoppikdgoieaa.M
