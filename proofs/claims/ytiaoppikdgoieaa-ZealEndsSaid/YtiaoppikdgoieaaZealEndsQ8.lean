/- Texts of the claim ZealEnds, put together (part 8): By a program of this session: a Go function as a Lean function, and that the machine's call does what it says. pick.Same's closures: are two lists of lists, are two pieces the same. -/
import Derived.ArgAppend
import Derived.Below
import Derived.BigQuiet
import Derived.Deep.AppendLies
import Derived.Deep.CutBlock
import Derived.Deep.DeepCutAuto
import Derived.Deep.Draws
import Derived.Deep.LoopGhost
import Derived.Deep.OwnRows
import Derived.Deep.QuietTactic
import Derived.Deep.RegionHeld3
import Derived.KernelRfl
import Derived.Laws.BitsLemmas
import Derived.Laws.BytesArg
import Derived.Laws.IdiomCopy
import Derived.Laws.MakeOwn
import Derived.Laws.OwnMore
import Derived.Laws.Rows
import Derived.Laws.Slices
import Derived.Laws.StructEq
import Derived.Lib.AppendStr
import Derived.Lib.ConvBytes
import Derived.Maps.AppendAt
import Derived.OrdersHeld
import Derived.OwnWalk
import Derived.RangeFuncBox
import Derived.RowKit
import Derived.RowKit3
import Derived.Tactics
import Derived.Test.YtiaoppikdgoieaaProg
import Derived.WalkKit
import Derived.WideLaws
import Derived.Test.YtiaoppikdgoieaaZealEndsQ7
namespace Go.Proofs.Ytiaoppikdgoieaa.M
open Go.RowKit Go.Proofs.YtiaoppikdgoieaaW.PrintWords Go.Proofs.YtiaoppikdgoieaaW.PrintLast Go.Proofs.YtiaoppikdgoieaaW.PrintMore Go.Proofs.Ytiaoppikdgoieaa.Hand
attribute [local go_sem] max2_int min2_int max_two min_two max_three min_three max_four min_four
set_option linter.unusedVariables false
set_option linter.unusedSimpArgs false

/-! ### sennitlaw10_ZealEnds: function 12 -/
mutual
def sennitlaw10_ZealEnds.j0 : Nat → Bool → Bool → Bool → List ByteArray → List ByteArray → List (List ByteArray) → Option (Bool)
 | 0, _, _, _, _, _, _ => none
 | k + 1, x3, x27, x368000, x368001, x368002, x368003 => if x27 = true then (some x3) else ((zeal_Trim.f k x368000 x368001 x368002 x368003).bind fun t373 => (sennitlaw10_ZealEnds.l0 k x3 t373 0 x368000 x368001 x368002 x368003))
def sennitlaw10_ZealEnds.l0 : Nat → Bool → List (S27) → Int → Bool → List ByteArray → List ByteArray → List (List ByteArray) → Option (Bool)
 | 0, _, _, _, _, _, _, _ => none
 | k + 1, x3, x4, x5, x368000, x368001, x368002, x368003 => if x5 < (x4.length : Int) then (if 0 ≤ x5 then (if 0 ≤ (((rd_T27 x4 x5).f1).length : Int) then ((some (((rd_T27 x4 x5).f1).drop 0 : List ByteArray)).bind fun y378 => (if 0 ≤ (((rd_T27 x4 x5).f2).length : Int) then ((some (((rd_T27 x4 x5).f2).drop 0 : List ByteArray)).bind fun y383 => (if 0 ≤ (((rd_T27 x4 x5).f3).length : Int) then ((some (((rd_T27 x4 x5).f3).drop 0 : List (List ByteArray))).bind fun y388 => (if ((rd_T27 x4 x5).f0 = true) then (if (y388.length : Int) = (x368003.length : Int) then ((sennitref01_Same.f k y383 x368002).bind fun t393 => (sennitlaw10_ZealEnds.j2 k x3 x4 x5 (!t393) x368000 x368001 x368002 x368003 ((rd_T27 x4 x5).f0) y378 y383 y388)) else (sennitlaw10_ZealEnds.j2 k x3 x4 x5 true x368000 x368001 x368002 x368003 ((rd_T27 x4 x5).f0) y378 y383 y388)) else (sennitlaw10_ZealEnds.l0 k x3 x4 (wrap64 (x5 + 1)) x368000 x368001 x368002 x368003))) else (none))) else (none))) else (none)) else (none)) else (some x3)
def sennitlaw10_ZealEnds.j2 : Nat → Bool → List (S27) → Int → Bool → Bool → List ByteArray → List ByteArray → List (List ByteArray) → Bool → List ByteArray → List ByteArray → List (List ByteArray) → Option (Bool)
 | 0, _, _, _, _, _, _, _, _, _, _, _, _ => none
 | k + 1, x3, x4, x5, x58, x368000, x368001, x368002, x368003, x378000, x378001, x378002, x378003 => if x58 = true then (none) else (if 0 < (x378003.length : Int) then (if 0 ≤ ((rd_L1 x378003 0).length : Int) then ((some ((rd_L1 x378003 0).drop 0 : List ByteArray)).bind fun y395 => (sennitlaw10_ZealEnds.l1 k x3 x4 x5 y395 (decide ((y395.length : Int) > 0)) (decide ((y395.length : Int) > 0)) 1 x368000 x368001 x368002 x368003 x378000 x378001 x378002 x378003)) else (none)) else (none))
def sennitlaw10_ZealEnds.l1 : Nat → Bool → List (S27) → Int → List ByteArray → Bool → Bool → Int → Bool → List ByteArray → List ByteArray → List (List ByteArray) → Bool → List ByteArray → List ByteArray → List (List ByteArray) → Option (Bool)
 | 0, _, _, _, _, _, _, _, _, _, _, _, _, _, _, _ => none
 | k + 1, x3, x4, x5, x7, x8, x9, x10, x368000, x368001, x368002, x368003, x378000, x378001, x378002, x378003 => if x10 < (x378003.length : Int) then (if 0 ≤ x10 then (if x8 = true then (if ((rd_L1 x378003 x10).length : Int) > 0 then (if 0 < ((rd_L1 x378003 x10).length : Int) then (if 0 < (x7.length : Int) then (if x9 = true then (if 0 ≤ (wrap64 (((rd_L1 x378003 x10).length : Int) - 1)) then (if (wrap64 (((rd_L1 x378003 x10).length : Int) - 1)) < ((rd_L1 x378003 x10).length : Int) then (if 0 ≤ (wrap64 ((x7.length : Int) - 1)) then (if (wrap64 ((x7.length : Int) - 1)) < (x7.length : Int) then (sennitlaw10_ZealEnds.l1 k x3 x4 x5 x7 ((rdOf ByteArray.empty (rd_L1 x378003 x10) 0).toList == (rdOf ByteArray.empty x7 0).toList) ((rdOf ByteArray.empty (rd_L1 x378003 x10) (wrap64 (((rd_L1 x378003 x10).length : Int) - 1))).toList == (rdOf ByteArray.empty x7 (wrap64 ((x7.length : Int) - 1))).toList) (wrap64 (x10 + 1)) x368000 x368001 x368002 x368003 x378000 x378001 x378002 x378003) else (none)) else (none)) else (none)) else (none)) else (sennitlaw10_ZealEnds.l1 k x3 x4 x5 x7 ((rdOf ByteArray.empty (rd_L1 x378003 x10) 0).toList == (rdOf ByteArray.empty x7 0).toList) false (wrap64 (x10 + 1)) x368000 x368001 x368002 x368003 x378000 x378001 x378002 x378003)) else (none)) else (none)) else (if x9 = true then (sennitlaw10_ZealEnds.l1 k x3 x4 x5 x7 false false (wrap64 (x10 + 1)) x368000 x368001 x368002 x368003 x378000 x378001 x378002 x378003) else (sennitlaw10_ZealEnds.l1 k x3 x4 x5 x7 false false (wrap64 (x10 + 1)) x368000 x368001 x368002 x368003 x378000 x378001 x378002 x378003))) else (if x9 = true then (if ((rd_L1 x378003 x10).length : Int) > 0 then (if 0 ≤ (wrap64 (((rd_L1 x378003 x10).length : Int) - 1)) then (if (wrap64 (((rd_L1 x378003 x10).length : Int) - 1)) < ((rd_L1 x378003 x10).length : Int) then (if 0 ≤ (wrap64 ((x7.length : Int) - 1)) then (if (wrap64 ((x7.length : Int) - 1)) < (x7.length : Int) then (sennitlaw10_ZealEnds.l1 k x3 x4 x5 x7 false ((rdOf ByteArray.empty (rd_L1 x378003 x10) (wrap64 (((rd_L1 x378003 x10).length : Int) - 1))).toList == (rdOf ByteArray.empty x7 (wrap64 ((x7.length : Int) - 1))).toList) (wrap64 (x10 + 1)) x368000 x368001 x368002 x368003 x378000 x378001 x378002 x378003) else (none)) else (none)) else (none)) else (none)) else (sennitlaw10_ZealEnds.l1 k x3 x4 x5 x7 false false (wrap64 (x10 + 1)) x368000 x368001 x368002 x368003 x378000 x378001 x378002 x378003)) else (sennitlaw10_ZealEnds.l1 k x3 x4 x5 x7 false false (wrap64 (x10 + 1)) x368000 x368001 x368002 x368003 x378000 x378001 x378002 x378003))) else (none)) else (if x8 = true then (none) else (if x9 = true then (none) else (sennitlaw10_ZealEnds.l0 k x3 x4 (wrap64 (x5 + 1)) x368000 x368001 x368002 x368003)))
end
def sennitlaw10_ZealEnds.f (k : Nat) (a0_0 : Bool) (l0_1 : List ByteArray) (l0_2 : List ByteArray) (l0_3 : List (List ByteArray)) : Option (Bool) := (sennitlaw10_awake.f k).bind fun t368 => ((sennitref07_Few.f k (([(⟨a0_0, l0_1, l0_2, l0_3⟩ : S27)] : List (S27)))).bind fun t372 => (if t372 = true then (if a0_0 = true then (sennitlaw10_ZealEnds.j0 k t368 ((l0_3.length : Int) == 0) a0_0 l0_1 l0_2 l0_3) else (sennitlaw10_ZealEnds.j0 k t368 true a0_0 l0_1 l0_2 l0_3)) else (sennitlaw10_ZealEnds.j0 k t368 true a0_0 l0_1 l0_2 l0_3)))
theorem sennitlaw10_ZealEnds.mono_l : ∀ k, (∀ y0 y1 y2 y3 y4 y5, LeO (sennitlaw10_ZealEnds.j0 k y0 y1 y2 y3 y4 y5) (sennitlaw10_ZealEnds.j0 (k + 1) y0 y1 y2 y3 y4 y5)) ∧ (∀ y0 y1 y2 y3 y4 y5 y6, LeO (sennitlaw10_ZealEnds.l0 k y0 y1 y2 y3 y4 y5 y6) (sennitlaw10_ZealEnds.l0 (k + 1) y0 y1 y2 y3 y4 y5 y6)) ∧ (∀ y0 y1 y2 y3 y4 y5 y6 y7 y8 y9 y10 y11, LeO (sennitlaw10_ZealEnds.j2 k y0 y1 y2 y3 y4 y5 y6 y7 y8 y9 y10 y11) (sennitlaw10_ZealEnds.j2 (k + 1) y0 y1 y2 y3 y4 y5 y6 y7 y8 y9 y10 y11)) ∧ (∀ y0 y1 y2 y3 y4 y5 y6 y7 y8 y9 y10 y11 y12 y13 y14, LeO (sennitlaw10_ZealEnds.l1 k y0 y1 y2 y3 y4 y5 y6 y7 y8 y9 y10 y11 y12 y13 y14) (sennitlaw10_ZealEnds.l1 (k + 1) y0 y1 y2 y3 y4 y5 y6 y7 y8 y9 y10 y11 y12 y13 y14))
 | 0 => ⟨fun _ _ _ _ _ _ r h => by simp [sennitlaw10_ZealEnds.j0] at h, fun _ _ _ _ _ _ _ r h => by simp [sennitlaw10_ZealEnds.l0] at h, fun _ _ _ _ _ _ _ _ _ _ _ _ r h => by simp [sennitlaw10_ZealEnds.j2] at h, fun _ _ _ _ _ _ _ _ _ _ _ _ _ _ _ r h => by simp [sennitlaw10_ZealEnds.l1] at h⟩
 | k + 1 => by
  obtain ⟨ih0, ih1, ih2, ih3⟩ := sennitlaw10_ZealEnds.mono_l k
  refine ⟨?_, ?_, ?_, ?_⟩
  ·intro y0 y1 y2 y3 y4 y5
   unfold sennitlaw10_ZealEnds.j0
   repeat' first
   | (with_reducible exact ih0 _ _ _ _ _ _)
   | (with_reducible exact ih1 _ _ _ _ _ _ _)
   | (with_reducible exact ih2 _ _ _ _ _ _ _ _ _ _ _ _)
   | (with_reducible exact ih3 _ _ _ _ _ _ _ _ _ _ _ _ _ _ _)
   | (with_reducible exact sennitlaw10_awake.mono _)
   | (with_reducible exact sennitref01_Same.mono _ _ _)
   | (with_reducible exact sennitref07_Few.mono _ _)
   | (with_reducible exact zeal_Trim.mono _ _ _ _ _)
   | (with_reducible exact LeO.refl _)
   | (with_reducible exact LeO.none _)
   | (with_reducible refine LeO.ite ?_ ?_)
   | (with_reducible refine LeO.bind ?_ (fun _ => ?_))
   | exact ih0 _ _ _ _ _ _
   | exact ih1 _ _ _ _ _ _ _
   | exact ih2 _ _ _ _ _ _ _ _ _ _ _ _
   | exact ih3 _ _ _ _ _ _ _ _ _ _ _ _ _ _ _
   | exact sennitlaw10_awake.mono _
   | exact sennitref01_Same.mono _ _ _
   | exact sennitref07_Few.mono _ _
   | exact zeal_Trim.mono _ _ _ _ _
   | exact LeO.none _
   | refine LeO.ite ?_ ?_
   | refine LeO.bind ?_ (fun _ => ?_)
  ·intro y0 y1 y2 y3 y4 y5 y6
   unfold sennitlaw10_ZealEnds.l0
   repeat' first
   | (with_reducible exact ih0 _ _ _ _ _ _)
   | (with_reducible exact ih1 _ _ _ _ _ _ _)
   | (with_reducible exact ih2 _ _ _ _ _ _ _ _ _ _ _ _)
   | (with_reducible exact ih3 _ _ _ _ _ _ _ _ _ _ _ _ _ _ _)
   | (with_reducible exact sennitlaw10_awake.mono _)
   | (with_reducible exact sennitref01_Same.mono _ _ _)
   | (with_reducible exact sennitref07_Few.mono _ _)
   | (with_reducible exact zeal_Trim.mono _ _ _ _ _)
   | (with_reducible exact LeO.refl _)
   | (with_reducible exact LeO.none _)
   | (with_reducible refine LeO.ite ?_ ?_)
   | (with_reducible refine LeO.bind ?_ (fun _ => ?_))
   | exact ih0 _ _ _ _ _ _
   | exact ih1 _ _ _ _ _ _ _
   | exact ih2 _ _ _ _ _ _ _ _ _ _ _ _
   | exact ih3 _ _ _ _ _ _ _ _ _ _ _ _ _ _ _
   | exact sennitlaw10_awake.mono _
   | exact sennitref01_Same.mono _ _ _
   | exact sennitref07_Few.mono _ _
   | exact zeal_Trim.mono _ _ _ _ _
   | exact LeO.none _
   | refine LeO.ite ?_ ?_
   | refine LeO.bind ?_ (fun _ => ?_)
  ·intro y0 y1 y2 y3 y4 y5 y6 y7 y8 y9 y10 y11
   unfold sennitlaw10_ZealEnds.j2
   repeat' first
   | (with_reducible exact ih0 _ _ _ _ _ _)
   | (with_reducible exact ih1 _ _ _ _ _ _ _)
   | (with_reducible exact ih2 _ _ _ _ _ _ _ _ _ _ _ _)
   | (with_reducible exact ih3 _ _ _ _ _ _ _ _ _ _ _ _ _ _ _)
   | (with_reducible exact sennitlaw10_awake.mono _)
   | (with_reducible exact sennitref01_Same.mono _ _ _)
   | (with_reducible exact sennitref07_Few.mono _ _)
   | (with_reducible exact zeal_Trim.mono _ _ _ _ _)
   | (with_reducible exact LeO.refl _)
   | (with_reducible exact LeO.none _)
   | (with_reducible refine LeO.ite ?_ ?_)
   | (with_reducible refine LeO.bind ?_ (fun _ => ?_))
   | exact ih0 _ _ _ _ _ _
   | exact ih1 _ _ _ _ _ _ _
   | exact ih2 _ _ _ _ _ _ _ _ _ _ _ _
   | exact ih3 _ _ _ _ _ _ _ _ _ _ _ _ _ _ _
   | exact sennitlaw10_awake.mono _
   | exact sennitref01_Same.mono _ _ _
   | exact sennitref07_Few.mono _ _
   | exact zeal_Trim.mono _ _ _ _ _
   | exact LeO.none _
   | refine LeO.ite ?_ ?_
   | refine LeO.bind ?_ (fun _ => ?_)
  ·intro y0 y1 y2 y3 y4 y5 y6 y7 y8 y9 y10 y11 y12 y13 y14
   unfold sennitlaw10_ZealEnds.l1
   repeat' first
   | (with_reducible exact ih0 _ _ _ _ _ _)
   | (with_reducible exact ih1 _ _ _ _ _ _ _)
   | (with_reducible exact ih2 _ _ _ _ _ _ _ _ _ _ _ _)
   | (with_reducible exact ih3 _ _ _ _ _ _ _ _ _ _ _ _ _ _ _)
   | (with_reducible exact sennitlaw10_awake.mono _)
   | (with_reducible exact sennitref01_Same.mono _ _ _)
   | (with_reducible exact sennitref07_Few.mono _ _)
   | (with_reducible exact zeal_Trim.mono _ _ _ _ _)
   | (with_reducible exact LeO.refl _)
   | (with_reducible exact LeO.none _)
   | (with_reducible refine LeO.ite ?_ ?_)
   | (with_reducible refine LeO.bind ?_ (fun _ => ?_))
   | exact ih0 _ _ _ _ _ _
   | exact ih1 _ _ _ _ _ _ _
   | exact ih2 _ _ _ _ _ _ _ _ _ _ _ _
   | exact ih3 _ _ _ _ _ _ _ _ _ _ _ _ _ _ _
   | exact sennitlaw10_awake.mono _
   | exact sennitref01_Same.mono _ _ _
   | exact sennitref07_Few.mono _ _
   | exact zeal_Trim.mono _ _ _ _ _
   | exact LeO.none _
   | refine LeO.ite ?_ ?_
   | refine LeO.bind ?_ (fun _ => ?_)
theorem sennitlaw10_ZealEnds.mono : ∀ a0 a1 a2 a3 k, LeO (sennitlaw10_ZealEnds.f k a0 a1 a2 a3) (sennitlaw10_ZealEnds.f (k + 1) a0 a1 a2 a3) := by
 intro a0 a1 a2 a3 k
 obtain ⟨ih0, ih1, ih2, ih3⟩ := sennitlaw10_ZealEnds.mono_l k
 unfold sennitlaw10_ZealEnds.f
 repeat' first
   | (with_reducible exact ih0 _ _ _ _ _ _)
   | (with_reducible exact ih1 _ _ _ _ _ _ _)
   | (with_reducible exact ih2 _ _ _ _ _ _ _ _ _ _ _ _)
   | (with_reducible exact ih3 _ _ _ _ _ _ _ _ _ _ _ _ _ _ _)
   | (with_reducible exact sennitlaw10_awake.mono _)
   | (with_reducible exact sennitref01_Same.mono _ _ _)
   | (with_reducible exact sennitref07_Few.mono _ _)
   | (with_reducible exact zeal_Trim.mono _ _ _ _ _)
   | (with_reducible exact LeO.refl _)
   | (with_reducible exact LeO.none _)
   | (with_reducible refine LeO.ite ?_ ?_)
   | (with_reducible refine LeO.bind ?_ (fun _ => ?_))
   | exact ih0 _ _ _ _ _ _
   | exact ih1 _ _ _ _ _ _ _
   | exact ih2 _ _ _ _ _ _ _ _ _ _ _ _
   | exact ih3 _ _ _ _ _ _ _ _ _ _ _ _ _ _ _
   | exact sennitlaw10_awake.mono _
   | exact sennitref01_Same.mono _ _ _
   | exact sennitref07_Few.mono _ _
   | exact zeal_Trim.mono _ _ _ _ _
   | exact LeO.none _
   | refine LeO.ite ?_ ?_
   | refine LeO.bind ?_ (fun _ => ?_)
set_option maxHeartbeats 8000000 in
set_option maxRecDepth 100000 in
theorem sennitlaw10_ZealEnds.calls (k : Nat) (a0_0 : Bool) (P0_1_ : Nat → Prop) (A0_1 : Option Addr) (c0_1 : Nat) (l0_1 : List ByteArray) (P0_2_ : Nat → Prop) (A0_2 : Option Addr) (c0_2 : Nat) (l0_2 : List ByteArray) (P0_3_ : Nat → Prop) (A0_3 : Option Addr) (c0_3 : Nat) (l0_3 : List (List ByteArray)) (r : Bool) (w : World) (hs0_1 : Kd.V Kd.string 9 w w.heap.size (fun k_ => P0_1_ k_) (.slice A0_1 l0_1.length c0_1) l0_1) (hs0_2 : Kd.V Kd.string 9 w w.heap.size (fun k_ => P0_2_ k_) (.slice A0_2 l0_2.length c0_2) l0_2) (hs0_3 : Kd.V (Kd.slice 9 Kd.string) 22 w w.heap.size (fun k_ => P0_3_ k_) (.slice A0_3 l0_3.length c0_3) l0_3) (h : sennitlaw10_ZealEnds.f k a0_0 l0_1 l0_2 l0_3 = some r) :
  Calls Try.prog 12 #[.agg #[.bool a0_0, .slice A0_1 l0_1.length c0_1, .slice A0_2 l0_2.length c0_2, .slice A0_3 l0_3.length c0_3]] w fun e w' => e = .returned (.bool r) ∧ Below w.heap.size w w' := by
 have hu27 := Try.underlying27
 have HO0_1 := am (show Kd.V Kd.string 9 w w.heap.size (fun k_ => ((P0_1_ k_ ∨ P0_2_ k_ ∨ P0_3_ k_) ∨ w.heap.size ≤ k_)) (.slice A0_1 l0_1.length c0_1) l0_1 from Kd.V_mono hs0_1 (fun k_ hk => .inl (.inl hk)))
 have HO0_2 := am (show Kd.V Kd.string 9 w w.heap.size (fun k_ => ((P0_1_ k_ ∨ P0_2_ k_ ∨ P0_3_ k_) ∨ w.heap.size ≤ k_)) (.slice A0_2 l0_2.length c0_2) l0_2 from Kd.V_mono hs0_2 (fun k_ hk => .inl (.inr (.inl hk))))
 have HO0_3 := am (show Kd.V (Kd.slice 9 Kd.string) 22 w w.heap.size (fun k_ => ((P0_1_ k_ ∨ P0_2_ k_ ∨ P0_3_ k_) ∨ w.heap.size ≤ k_)) (.slice A0_3 l0_3.length c0_3) l0_3 from Kd.V_mono hs0_3 (fun k_ hk => .inl (.inr (.inr hk))))
 have HB := am (Below.refl w.heap.size w)
 have H : ((sennitlaw10_awake.f k).bind fun t368 => ((sennitref07_Few.f k (([(⟨a0_0, l0_1, l0_2, l0_3⟩ : S27)] : List (S27)))).bind fun t372 => (if t372 = true then (if a0_0 = true then (sennitlaw10_ZealEnds.j0 k t368 ((l0_3.length : Int) == 0) a0_0 l0_1 l0_2 l0_3) else (sennitlaw10_ZealEnds.j0 k t368 true a0_0 l0_1 l0_2 l0_3)) else (sennitlaw10_ZealEnds.j0 k t368 true a0_0 l0_1 l0_2 l0_3)))) = some r := h
 clear h
 replace H := Option.bind_eq_some_iff.mp H
 obtain ⟨t368, A20, H⟩ := H
 replace H : ((sennitref07_Few.f k (([(⟨a0_0, l0_1, l0_2, l0_3⟩ : S27)] : List (S27)))).bind fun t372 => (if t372 = true then (if a0_0 = true then (sennitlaw10_ZealEnds.j0 k t368 ((l0_3.length : Int) == 0) a0_0 l0_1 l0_2 l0_3) else (sennitlaw10_ZealEnds.j0 k t368 true a0_0 l0_1 l0_2 l0_3)) else (sennitlaw10_ZealEnds.j0 k t368 true a0_0 l0_1 l0_2 l0_3))) = some r := H
 have A2 := am A20
 clear A20
 have HC3 := am H
 clear H
 go_enter Try.func12, Try.ntmps12
 go_upto_region 2 with (first | ((with_reducible refine gate_dst (N := 1) rfl ?_); (try (refine gate_guard (by rfl) ?_; dsimp only)); refine box_event ?hg (N := 1) ?hd (cs := #[.bool a0_0, .slice A0_1 l0_1.length c0_1, .slice A0_2 l0_2.length c0_2, .slice A0_3 l0_3.length c0_3]) (t := 27) ?hr ?_; (case hd => rfl); (case hg => rfl); (case hr => first | (go_simp; done) | (go_simp; rfl)); intro gb367 hg w4 hbox hb; have n0_ := am (Kd.V_below (Kd.V_elderB (by (with_reducible repeat (first | apply vA | apply vN | apply vD)); exact HO0_1.out) gb367 (Nat.le_of_eq hg.symm)) hb); have n1_ := am (Kd.V_below (Kd.V_elderB (by (with_reducible repeat (first | apply vA | apply vN | apply vD)); exact HO0_2.out) gb367 (Nat.le_of_eq hg.symm)) hb); have n2_ := am (Kd.V_below (Kd.V_elderB (by (with_reducible repeat (first | apply vA | apply vN | apply vD)); exact HO0_3.out) gb367 (Nat.le_of_eq hg.symm)) hb); have n3_ := am (below_step (by repeat (with_reducible first | exact HB.out | apply bA | apply bN | apply bD)) hb); have n4_ := am (hbox); have n5_ := am ((by rw [hg]; exact (below_size (by repeat (with_reducible first | exact HB.out | apply bA | apply bN | apply bD))) : w.heap.size ≤ gb367)); have n6_ := am ((by rw [hg]; exact (below_size (by repeat (with_reducible first | exact HB.out | apply bA | apply bN | apply bD))) : w.heap.size ≤ gb367)); clear HO0_1; clear HO0_2; clear HO0_3; clear HB; have HO0_1 := n0_; have HO0_2 := n1_; have HO0_3 := n2_; have HB := n3_; have BK367 := n4_; have GW367 := n5_; have GE367 := n6_; clear n0_ n1_ n2_ n3_ n4_ n5_ n6_; clear hb hbox hg) | (go_at_call 35; (with_reducible refine (sennitlaw10_awake.calls k  t368 _ A2.out).mono ?_); rintro e w5 ⟨rfl, hb⟩; have n0_ := am (Kd.V_below (by (with_reducible repeat (first | apply vA | apply vN | apply vD)); exact HO0_1.out) hb); have n1_ := am (Kd.V_below (by (with_reducible repeat (first | apply vA | apply vN | apply vD)); exact HO0_2.out) hb); have n2_ := am (Kd.V_below (by (with_reducible repeat (first | apply vA | apply vN | apply vD)); exact HO0_3.out) hb); have n3_ := am (blk_below (g := gb367) (o := .cells #[.bool a0_0, .slice A0_1 l0_1.length c0_1, .slice A0_2 l0_2.length c0_2, .slice A0_3 l0_3.length c0_3] 27 (0, 0)) (by (with_reducible repeat (first | refine blk_drewN ?_ _ | refine blk_drew ?_ | refine blk_alloc ?_ _)); exact BK367.out) hb); have n4_ := am (below_step (by repeat (first | (with_reducible first | exact HB.out | apply below_alloc | apply pw_below_drewN | apply below_drew1 | refine below_set ?_ GE367.out) | exact HB.out)) hb); clear HO0_1; clear HO0_2; clear HO0_3; clear BK367; clear HB; have HO0_1 := n0_; have HO0_2 := n1_; have HO0_3 := n2_; have BK367 := n3_; have HB := n4_; clear n0_ n1_ n2_ n3_ n4_; (try clear hb); (try clear hb2); (try clear hk); (try clear hi)))
 repeat (go_quiet (first | ((with_reducible refine gate_dst (N := 1) rfl ?_); (try (refine gate_guard (by rfl) ?_; dsimp only)); refine box_event ?hg (N := 1) ?hd (cs := #[.bool a0_0, .slice A0_1 l0_1.length c0_1, .slice A0_2 l0_2.length c0_2, .slice A0_3 l0_3.length c0_3]) (t := 27) ?hr ?_; (case hd => rfl); (case hg => rfl); (case hr => first | (go_simp; done) | (go_simp; rfl)); intro gb367 hg w4 hbox hb; have n0_ := am (Kd.V_below (Kd.V_elderB (by (with_reducible repeat (first | apply vA | apply vN | apply vD)); exact HO0_1.out) gb367 (Nat.le_of_eq hg.symm)) hb); have n1_ := am (Kd.V_below (Kd.V_elderB (by (with_reducible repeat (first | apply vA | apply vN | apply vD)); exact HO0_2.out) gb367 (Nat.le_of_eq hg.symm)) hb); have n2_ := am (Kd.V_below (Kd.V_elderB (by (with_reducible repeat (first | apply vA | apply vN | apply vD)); exact HO0_3.out) gb367 (Nat.le_of_eq hg.symm)) hb); have n3_ := am (below_step (by repeat (with_reducible first | exact HB.out | apply bA | apply bN | apply bD)) hb); have n4_ := am (hbox); have n5_ := am ((by rw [hg]; exact (below_size (by repeat (with_reducible first | exact HB.out | apply bA | apply bN | apply bD))) : w.heap.size ≤ gb367)); have n6_ := am ((by rw [hg]; exact (below_size (by repeat (with_reducible first | exact HB.out | apply bA | apply bN | apply bD))) : w.heap.size ≤ gb367)); clear HO0_1; clear HO0_2; clear HO0_3; clear HB; have HO0_1 := n0_; have HO0_2 := n1_; have HO0_3 := n2_; have HB := n3_; have BK367 := n4_; have GW367 := n5_; have GE367 := n6_; clear n0_ n1_ n2_ n3_ n4_ n5_ n6_; clear hb hbox hg) | (go_at_call 35; (with_reducible refine (sennitlaw10_awake.calls k  t368 _ A2.out).mono ?_); rintro e w5 ⟨rfl, hb⟩; have n0_ := am (Kd.V_below (by (with_reducible repeat (first | apply vA | apply vN | apply vD)); exact HO0_1.out) hb); have n1_ := am (Kd.V_below (by (with_reducible repeat (first | apply vA | apply vN | apply vD)); exact HO0_2.out) hb); have n2_ := am (Kd.V_below (by (with_reducible repeat (first | apply vA | apply vN | apply vD)); exact HO0_3.out) hb); have n3_ := am (blk_below (g := gb367) (o := .cells #[.bool a0_0, .slice A0_1 l0_1.length c0_1, .slice A0_2 l0_2.length c0_2, .slice A0_3 l0_3.length c0_3] 27 (0, 0)) (by (with_reducible repeat (first | refine blk_drewN ?_ _ | refine blk_drew ?_ | refine blk_alloc ?_ _)); exact BK367.out) hb); have n4_ := am (below_step (by repeat (first | (with_reducible first | exact HB.out | apply below_alloc | apply pw_below_drewN | apply below_drew1 | refine below_set ?_ GE367.out) | exact HB.out)) hb); clear HO0_1; clear HO0_2; clear HO0_3; clear BK367; clear HB; have HO0_1 := n0_; have HO0_2 := n1_; have HO0_3 := n2_; have BK367 := n3_; have HB := n4_; clear n0_ n1_ n2_ n3_ n4_; (try clear hb); (try clear hb2); (try clear hk); (try clear hi))); go_upto_region 2 with (first | ((with_reducible refine gate_dst (N := 1) rfl ?_); (try (refine gate_guard (by rfl) ?_; dsimp only)); refine box_event ?hg (N := 1) ?hd (cs := #[.bool a0_0, .slice A0_1 l0_1.length c0_1, .slice A0_2 l0_2.length c0_2, .slice A0_3 l0_3.length c0_3]) (t := 27) ?hr ?_; (case hd => rfl); (case hg => rfl); (case hr => first | (go_simp; done) | (go_simp; rfl)); intro gb367 hg w4 hbox hb; have n0_ := am (Kd.V_below (Kd.V_elderB (by (with_reducible repeat (first | apply vA | apply vN | apply vD)); exact HO0_1.out) gb367 (Nat.le_of_eq hg.symm)) hb); have n1_ := am (Kd.V_below (Kd.V_elderB (by (with_reducible repeat (first | apply vA | apply vN | apply vD)); exact HO0_2.out) gb367 (Nat.le_of_eq hg.symm)) hb); have n2_ := am (Kd.V_below (Kd.V_elderB (by (with_reducible repeat (first | apply vA | apply vN | apply vD)); exact HO0_3.out) gb367 (Nat.le_of_eq hg.symm)) hb); have n3_ := am (below_step (by repeat (with_reducible first | exact HB.out | apply bA | apply bN | apply bD)) hb); have n4_ := am (hbox); have n5_ := am ((by rw [hg]; exact (below_size (by repeat (with_reducible first | exact HB.out | apply bA | apply bN | apply bD))) : w.heap.size ≤ gb367)); have n6_ := am ((by rw [hg]; exact (below_size (by repeat (with_reducible first | exact HB.out | apply bA | apply bN | apply bD))) : w.heap.size ≤ gb367)); clear HO0_1; clear HO0_2; clear HO0_3; clear HB; have HO0_1 := n0_; have HO0_2 := n1_; have HO0_3 := n2_; have HB := n3_; have BK367 := n4_; have GW367 := n5_; have GE367 := n6_; clear n0_ n1_ n2_ n3_ n4_ n5_ n6_; clear hb hbox hg) | (go_at_call 35; (with_reducible refine (sennitlaw10_awake.calls k  t368 _ A2.out).mono ?_); rintro e w5 ⟨rfl, hb⟩; have n0_ := am (Kd.V_below (by (with_reducible repeat (first | apply vA | apply vN | apply vD)); exact HO0_1.out) hb); have n1_ := am (Kd.V_below (by (with_reducible repeat (first | apply vA | apply vN | apply vD)); exact HO0_2.out) hb); have n2_ := am (Kd.V_below (by (with_reducible repeat (first | apply vA | apply vN | apply vD)); exact HO0_3.out) hb); have n3_ := am (blk_below (g := gb367) (o := .cells #[.bool a0_0, .slice A0_1 l0_1.length c0_1, .slice A0_2 l0_2.length c0_2, .slice A0_3 l0_3.length c0_3] 27 (0, 0)) (by (with_reducible repeat (first | refine blk_drewN ?_ _ | refine blk_drew ?_ | refine blk_alloc ?_ _)); exact BK367.out) hb); have n4_ := am (below_step (by repeat (first | (with_reducible first | exact HB.out | apply below_alloc | apply pw_below_drewN | apply below_drew1 | refine below_set ?_ GE367.out) | exact HB.out)) hb); clear HO0_1; clear HO0_2; clear HO0_3; clear BK367; clear HB; have HO0_1 := n0_; have HO0_2 := n1_; have HO0_3 := n2_; have BK367 := n3_; have HB := n4_; clear n0_ n1_ n2_ n3_ n4_; (try clear hb); (try clear hb2); (try clear hk); (try clear hi))))
 (try simp only [Act.put, List.setIfInBounds_toArray, List.set_cons_zero, List.set_cons_succ])
 go_cut [27] (fun v27 wc => ∃ (kq : Nat) (x27_2 : Bool), v27 = .bool x27_2 ∧ Aside0 (sennitlaw10_ZealEnds.j0 kq t368 x27_2 a0_0 l0_1 l0_2 l0_3 = some r) ∧ Aside0 (kq ≤ k) ∧ Aside0 (Kd.V Kd.string 9 wc w.heap.size (fun k_ => ((P0_1_ k_ ∨ P0_2_ k_ ∨ P0_3_ k_) ∨ w.heap.size ≤ k_) ∧ k_ ≠ gb367) (.slice A0_1 l0_1.length c0_1) l0_1) ∧ Aside0 (Kd.V Kd.string 9 wc w.heap.size (fun k_ => ((P0_1_ k_ ∨ P0_2_ k_ ∨ P0_3_ k_) ∨ w.heap.size ≤ k_) ∧ k_ ≠ gb367) (.slice A0_2 l0_2.length c0_2) l0_2) ∧ Aside0 (Kd.V (Kd.slice 9 Kd.string) 22 wc w.heap.size (fun k_ => ((P0_1_ k_ ∨ P0_2_ k_ ∨ P0_3_ k_) ∨ w.heap.size ≤ k_) ∧ k_ ≠ gb367) (.slice A0_3 l0_3.length c0_3) l0_3) ∧ Aside0 (wc.heap[gb367]? = some (.cells #[.bool a0_0, (.slice A0_1 l0_1.length c0_1), (.slice A0_2 l0_2.length c0_2), (.slice A0_3 l0_3.length c0_3)] 27 (0, 0))) ∧ Aside0 (Below w.heap.size w wc))
 case first =>
  have H := HC3.out
  clear HC3
  obtain ⟨y369, hy369⟩ : ∃ y_ : List (S27), y_ = (([(⟨a0_0, l0_1, l0_2, l0_3⟩ : S27)] : List (S27))) := ⟨_, rfl⟩
  replace H : ((sennitref07_Few.f k y369).bind fun t372 => (if t372 = true then (if a0_0 = true then (sennitlaw10_ZealEnds.j0 k t368 ((l0_3.length : Int) == 0) a0_0 l0_1 l0_2 l0_3) else (sennitlaw10_ZealEnds.j0 k t368 true a0_0 l0_1 l0_2 l0_3)) else (sennitlaw10_ZealEnds.j0 k t368 true a0_0 l0_1 l0_2 l0_3))) = some r := by first | (rw [hy369]; with_reducible exact H) | (have H2_ := (Option.bind_some _ _).symm.trans H; rw [hy369]; with_reducible exact H2_) | (have H2_ := (Option.bind_some _ _).symm.trans H; with_reducible exact H2_) | with_reducible exact H | (rw [hy369]; exact H) | exact H
  have Ny369 := am hy369
  clear hy369
  replace H := Option.bind_eq_some_iff.mp H
  obtain ⟨t372, A60, H⟩ := H
  replace H : (if t372 = true then (if a0_0 = true then (sennitlaw10_ZealEnds.j0 k t368 ((l0_3.length : Int) == 0) a0_0 l0_1 l0_2 l0_3) else (sennitlaw10_ZealEnds.j0 k t368 true a0_0 l0_1 l0_2 l0_3)) else (sennitlaw10_ZealEnds.j0 k t368 true a0_0 l0_1 l0_2 l0_3)) = some r := H
  have A6 := am A60
  clear A60
  by_cases c7 : t372 = true
  ·subst c7
   have H1 : (if a0_0 = true then (sennitlaw10_ZealEnds.j0 k t368 ((l0_3.length : Int) == 0) a0_0 l0_1 l0_2 l0_3) else (sennitlaw10_ZealEnds.j0 k t368 true a0_0 l0_1 l0_2 l0_3)) = some r := by rw [if_pos rfl] at H; exact H
   clear H
   have H := H1
   clear H1
   by_cases c8 : a0_0 = true
   ·subst c8
    have H1 : (sennitlaw10_ZealEnds.j0 k t368 ((l0_3.length : Int) == 0) true l0_1 l0_2 l0_3) = some r := by rw [if_pos rfl] at H; exact H
    clear H
    have H := H1
    clear H1
    have H' := am H
    clear H
    have hcz9_0 : w5.cell? ⟨gb367, 0, none⟩ = some (.bool true) := (blk_cell BK367.out 0).trans rfl
    have hcz9_1 : w5.cell? ⟨gb367, 1, none⟩ = some (.slice A0_1 l0_1.length c0_1) := (blk_cell BK367.out 1).trans rfl
    have hcz9_2 : w5.cell? ⟨gb367, 2, none⟩ = some (.slice A0_2 l0_2.length c0_2) := (blk_cell BK367.out 2).trans rfl
    have hcz9_3 : w5.cell? ⟨gb367, 3, none⟩ = some (.slice A0_3 l0_3.length c0_3) := (blk_cell BK367.out 3).trans rfl
    have hfz9_0 := blk_frozen BK367.out 0
    have hfz9_1 := blk_frozen BK367.out 1
    have hfz9_2 := blk_frozen BK367.out 2
    have hfz9_3 := blk_frozen BK367.out 3
    go_wp2_with (first | ((with_reducible refine gate_dst (N := 14) rfl ?_); (try (refine gate_guard (by rfl) ?_; dsimp only)); refine Kd.N_lit k27 _ 27 ?hg (N' := 14) ?hd (xs := ([(⟨true, l0_1, l0_2, l0_3⟩ : S27)] : List (S27))) (inner := [.bool true, .slice A0_1 l0_1.length c0_1, .slice A0_2 l0_2.length c0_2, .slice A0_3 l0_3.length c0_3]) (ok := (fun k_ => ((P0_1_ k_ ∨ P0_2_ k_ ∨ P0_3_ k_) ∨ w.heap.size ≤ k_) ∧ k_ ≠ gb367)) (okp := (fun k_ => ((P0_1_ k_ ∨ P0_2_ k_ ∨ P0_3_ k_) ∨ w.heap.size ≤ k_) ∧ k_ ≠ gb367)) ?hr ?hp (fun _ hk => hk) ((show ∀ k_, w5.heap.size ≤ k_ → (fun k_ => ((P0_1_ k_ ∨ P0_2_ k_ ∨ P0_3_ k_) ∨ w.heap.size ≤ k_) ∧ k_ ≠ gb367) k_ from fun k_ hk => ⟨(.inr (Nat.le_trans (below_size (by repeat (first | (with_reducible first | exact HB.out | apply below_alloc | apply pw_below_drewN | apply below_drew1 | refine below_set ?_ GE367.out) | exact HB.out))) hk)), Kd.freshB (g := gb367) (o := .cells #[.bool true, .slice A0_1 l0_1.length c0_1, .slice A0_2 l0_2.length c0_2, .slice A0_3 l0_3.length c0_3] 27 (0, 0)) (by (with_reducible repeat (first | refine blk_drewN ?_ _ | refine blk_drew ?_ | refine blk_alloc ?_ _)); exact BK367.out) k_ hk⟩) _ (Nat.le_refl _)) (Below.refl _ _) (Nat.le_refl _) (by simp) ?_; (case hd => rfl); (case hg => rfl); (case hr => first | (go_simp; done) | (go_simp; rfl)); (case hp => exact (Reps.c4 (show Kd.FK k27 _ _ (⟨true, l0_1, l0_2, l0_3⟩ : S27) [.bool true, .slice A0_1 l0_1.length c0_1, .slice A0_2 l0_2.length c0_2, .slice A0_3 l0_3.length c0_3] from (k27_mkF _ _ (⟨true, l0_1, l0_2, l0_3⟩ : S27) (Kd.V_reads' (Kd.V_mono (ok' := (fun k_ => ((P0_1_ k_ ∨ P0_2_ k_ ∨ P0_3_ k_) ∨ w.heap.size ≤ k_) ∧ k_ ≠ gb367)) (HO0_1.out) (fun k_ hk => ⟨hk.1, hk.2⟩))).2.1 (Kd.V_F (Kd.V_mono (ok' := (fun k_ => ((P0_1_ k_ ∨ P0_2_ k_ ∨ P0_3_ k_) ∨ w.heap.size ≤ k_) ∧ k_ ≠ gb367)) (HO0_1.out) (fun k_ hk => ⟨hk.1, hk.2⟩))) (Kd.V_reads' (Kd.V_mono (ok' := (fun k_ => ((P0_1_ k_ ∨ P0_2_ k_ ∨ P0_3_ k_) ∨ w.heap.size ≤ k_) ∧ k_ ≠ gb367)) (HO0_2.out) (fun k_ hk => ⟨hk.1, hk.2⟩))).2.1 (Kd.V_F (Kd.V_mono (ok' := (fun k_ => ((P0_1_ k_ ∨ P0_2_ k_ ∨ P0_3_ k_) ∨ w.heap.size ≤ k_) ∧ k_ ≠ gb367)) (HO0_2.out) (fun k_ hk => ⟨hk.1, hk.2⟩))) (Kd.V_reads' (Kd.V_mono (ok' := (fun k_ => ((P0_1_ k_ ∨ P0_2_ k_ ∨ P0_3_ k_) ∨ w.heap.size ≤ k_) ∧ k_ ≠ gb367)) (HO0_3.out) (fun k_ hk => ⟨hk.1, hk.2⟩))).2.1 (Kd.V_F (Kd.V_mono (ok' := (fun k_ => ((P0_1_ k_ ∨ P0_2_ k_ ∨ P0_3_ k_) ∨ w.heap.size ≤ k_) ∧ k_ ≠ gb367)) (HO0_3.out) (fun k_ hk => ⟨hk.1, hk.2⟩))))) (Reps.none _ _))); intro v370 w10 ho11 hb hg_ hnew_; clear hg_ hnew_; rw [← Ny369.out] at ho11; have n0_ := am (Kd.V_elder' (by (with_reducible repeat (first | apply vA | apply vN | apply vD)); exact HO0_1.out) (Kd.N_base ho11) hb); have n1_ := am (Kd.V_elder' (by (with_reducible repeat (first | apply vA | apply vN | apply vD)); exact HO0_2.out) (Kd.N_base ho11) hb); have n2_ := am (Kd.V_elder' (by (with_reducible repeat (first | apply vA | apply vN | apply vD)); exact HO0_3.out) (Kd.N_base ho11) hb); have n3_ := am (Kd.N_lower ho11 (below_size (by repeat (first | (with_reducible first | exact HB.out | apply below_alloc | apply pw_below_drewN | apply below_drew1 | refine below_set ?_ GE367.out) | exact HB.out)))); have n4_ := am (blk_below (g := gb367) (o := .cells #[.bool true, .slice A0_1 l0_1.length c0_1, .slice A0_2 l0_2.length c0_2, .slice A0_3 l0_3.length c0_3] 27 (0, 0)) (by (with_reducible repeat (first | refine blk_drewN ?_ _ | refine blk_drew ?_ | refine blk_alloc ?_ _)); exact BK367.out) hb); have n5_ := am (below_step (by repeat (first | (with_reducible first | exact HB.out | apply below_alloc | apply pw_below_drewN | apply below_drew1 | refine below_set ?_ GE367.out) | exact HB.out)) hb); clear HO0_1; clear HO0_2; clear HO0_3; clear BK367; clear HB; have HO0_1 := n0_; have HO0_2 := n1_; have HO0_3 := n2_; have HO371 := n3_; have BK367 := n4_; have HB := n5_; clear n0_ n1_ n2_ n3_ n4_ n5_; clear hb ho11; obtain ⟨Ao12, co12, eo12⟩ := Kd.N_slice HO371.out; subst eo12) | (go_at_call 32; (with_reducible refine (sennitref07_Few.calls k _ _ y369 true _ ?side1 ?side2 A6.out).mono ?_); (case side1 => repeat (first | exact (Kd.N_reads' HO371.out).2.2 | (with_reducible refine Kd.C_alloc ?_ _) | (with_reducible refine Kd.C_drewN ?_ _) | (with_reducible refine Kd.C_drew ?_))); (case side2 => exact (Kd.N_reads' HO371.out).2.1); rintro e w' ⟨rfl, ⟨nd, rfl⟩⟩; (try first | exact ⟨rfl, _, World.drewN_drewN _ _ _⟩ | exact ⟨rfl, _, Eq.trans (World.drewN_drewN _ _ _) (congrArg (World.drewN _) (Nat.add_assoc _ _ _))⟩); have hcz13_0 : w10.cell? ⟨gb367, 0, none⟩ = some (.bool true) := (blk_cell BK367.out 0).trans rfl; have hcz13_1 : w10.cell? ⟨gb367, 1, none⟩ = some (.slice A0_1 l0_1.length c0_1) := (blk_cell BK367.out 1).trans rfl; have hcz13_2 : w10.cell? ⟨gb367, 2, none⟩ = some (.slice A0_2 l0_2.length c0_2) := (blk_cell BK367.out 2).trans rfl; have hcz13_3 : w10.cell? ⟨gb367, 3, none⟩ = some (.slice A0_3 l0_3.length c0_3) := (blk_cell BK367.out 3).trans rfl; have hfz13_0 := blk_frozen BK367.out 0; have hfz13_1 := blk_frozen BK367.out 1; have hfz13_2 := blk_frozen BK367.out 2; have hfz13_3 := blk_frozen BK367.out 3))
    repeat (go_quiet (first | ((with_reducible refine gate_dst (N := 14) rfl ?_); (try (refine gate_guard (by rfl) ?_; dsimp only)); refine Kd.N_lit k27 _ 27 ?hg (N' := 14) ?hd (xs := ([(⟨true, l0_1, l0_2, l0_3⟩ : S27)] : List (S27))) (inner := [.bool true, .slice A0_1 l0_1.length c0_1, .slice A0_2 l0_2.length c0_2, .slice A0_3 l0_3.length c0_3]) (ok := (fun k_ => ((P0_1_ k_ ∨ P0_2_ k_ ∨ P0_3_ k_) ∨ w.heap.size ≤ k_) ∧ k_ ≠ gb367)) (okp := (fun k_ => ((P0_1_ k_ ∨ P0_2_ k_ ∨ P0_3_ k_) ∨ w.heap.size ≤ k_) ∧ k_ ≠ gb367)) ?hr ?hp (fun _ hk => hk) ((show ∀ k_, w5.heap.size ≤ k_ → (fun k_ => ((P0_1_ k_ ∨ P0_2_ k_ ∨ P0_3_ k_) ∨ w.heap.size ≤ k_) ∧ k_ ≠ gb367) k_ from fun k_ hk => ⟨(.inr (Nat.le_trans (below_size (by repeat (first | (with_reducible first | exact HB.out | apply below_alloc | apply pw_below_drewN | apply below_drew1 | refine below_set ?_ GE367.out) | exact HB.out))) hk)), Kd.freshB (g := gb367) (o := .cells #[.bool true, .slice A0_1 l0_1.length c0_1, .slice A0_2 l0_2.length c0_2, .slice A0_3 l0_3.length c0_3] 27 (0, 0)) (by (with_reducible repeat (first | refine blk_drewN ?_ _ | refine blk_drew ?_ | refine blk_alloc ?_ _)); exact BK367.out) k_ hk⟩) _ (Nat.le_refl _)) (Below.refl _ _) (Nat.le_refl _) (by simp) ?_; (case hd => rfl); (case hg => rfl); (case hr => first | (go_simp; done) | (go_simp; rfl)); (case hp => exact (Reps.c4 (show Kd.FK k27 _ _ (⟨true, l0_1, l0_2, l0_3⟩ : S27) [.bool true, .slice A0_1 l0_1.length c0_1, .slice A0_2 l0_2.length c0_2, .slice A0_3 l0_3.length c0_3] from (k27_mkF _ _ (⟨true, l0_1, l0_2, l0_3⟩ : S27) (Kd.V_reads' (Kd.V_mono (ok' := (fun k_ => ((P0_1_ k_ ∨ P0_2_ k_ ∨ P0_3_ k_) ∨ w.heap.size ≤ k_) ∧ k_ ≠ gb367)) (HO0_1.out) (fun k_ hk => ⟨hk.1, hk.2⟩))).2.1 (Kd.V_F (Kd.V_mono (ok' := (fun k_ => ((P0_1_ k_ ∨ P0_2_ k_ ∨ P0_3_ k_) ∨ w.heap.size ≤ k_) ∧ k_ ≠ gb367)) (HO0_1.out) (fun k_ hk => ⟨hk.1, hk.2⟩))) (Kd.V_reads' (Kd.V_mono (ok' := (fun k_ => ((P0_1_ k_ ∨ P0_2_ k_ ∨ P0_3_ k_) ∨ w.heap.size ≤ k_) ∧ k_ ≠ gb367)) (HO0_2.out) (fun k_ hk => ⟨hk.1, hk.2⟩))).2.1 (Kd.V_F (Kd.V_mono (ok' := (fun k_ => ((P0_1_ k_ ∨ P0_2_ k_ ∨ P0_3_ k_) ∨ w.heap.size ≤ k_) ∧ k_ ≠ gb367)) (HO0_2.out) (fun k_ hk => ⟨hk.1, hk.2⟩))) (Kd.V_reads' (Kd.V_mono (ok' := (fun k_ => ((P0_1_ k_ ∨ P0_2_ k_ ∨ P0_3_ k_) ∨ w.heap.size ≤ k_) ∧ k_ ≠ gb367)) (HO0_3.out) (fun k_ hk => ⟨hk.1, hk.2⟩))).2.1 (Kd.V_F (Kd.V_mono (ok' := (fun k_ => ((P0_1_ k_ ∨ P0_2_ k_ ∨ P0_3_ k_) ∨ w.heap.size ≤ k_) ∧ k_ ≠ gb367)) (HO0_3.out) (fun k_ hk => ⟨hk.1, hk.2⟩))))) (Reps.none _ _))); intro v370 w10 ho11 hb hg_ hnew_; clear hg_ hnew_; rw [← Ny369.out] at ho11; have n0_ := am (Kd.V_elder' (by (with_reducible repeat (first | apply vA | apply vN | apply vD)); exact HO0_1.out) (Kd.N_base ho11) hb); have n1_ := am (Kd.V_elder' (by (with_reducible repeat (first | apply vA | apply vN | apply vD)); exact HO0_2.out) (Kd.N_base ho11) hb); have n2_ := am (Kd.V_elder' (by (with_reducible repeat (first | apply vA | apply vN | apply vD)); exact HO0_3.out) (Kd.N_base ho11) hb); have n3_ := am (Kd.N_lower ho11 (below_size (by repeat (first | (with_reducible first | exact HB.out | apply below_alloc | apply pw_below_drewN | apply below_drew1 | refine below_set ?_ GE367.out) | exact HB.out)))); have n4_ := am (blk_below (g := gb367) (o := .cells #[.bool true, .slice A0_1 l0_1.length c0_1, .slice A0_2 l0_2.length c0_2, .slice A0_3 l0_3.length c0_3] 27 (0, 0)) (by (with_reducible repeat (first | refine blk_drewN ?_ _ | refine blk_drew ?_ | refine blk_alloc ?_ _)); exact BK367.out) hb); have n5_ := am (below_step (by repeat (first | (with_reducible first | exact HB.out | apply below_alloc | apply pw_below_drewN | apply below_drew1 | refine below_set ?_ GE367.out) | exact HB.out)) hb); clear HO0_1; clear HO0_2; clear HO0_3; clear BK367; clear HB; have HO0_1 := n0_; have HO0_2 := n1_; have HO0_3 := n2_; have HO371 := n3_; have BK367 := n4_; have HB := n5_; clear n0_ n1_ n2_ n3_ n4_ n5_; clear hb ho11; obtain ⟨Ao12, co12, eo12⟩ := Kd.N_slice HO371.out; subst eo12) | (go_at_call 32; (with_reducible refine (sennitref07_Few.calls k _ _ y369 true _ ?side1 ?side2 A6.out).mono ?_); (case side1 => repeat (first | exact (Kd.N_reads' HO371.out).2.2 | (with_reducible refine Kd.C_alloc ?_ _) | (with_reducible refine Kd.C_drewN ?_ _) | (with_reducible refine Kd.C_drew ?_))); (case side2 => exact (Kd.N_reads' HO371.out).2.1); rintro e w' ⟨rfl, ⟨nd, rfl⟩⟩; (try first | exact ⟨rfl, _, World.drewN_drewN _ _ _⟩ | exact ⟨rfl, _, Eq.trans (World.drewN_drewN _ _ _) (congrArg (World.drewN _) (Nat.add_assoc _ _ _))⟩); have hcz13_0 : w10.cell? ⟨gb367, 0, none⟩ = some (.bool true) := (blk_cell BK367.out 0).trans rfl; have hcz13_1 : w10.cell? ⟨gb367, 1, none⟩ = some (.slice A0_1 l0_1.length c0_1) := (blk_cell BK367.out 1).trans rfl; have hcz13_2 : w10.cell? ⟨gb367, 2, none⟩ = some (.slice A0_2 l0_2.length c0_2) := (blk_cell BK367.out 2).trans rfl; have hcz13_3 : w10.cell? ⟨gb367, 3, none⟩ = some (.slice A0_3 l0_3.length c0_3) := (blk_cell BK367.out 3).trans rfl; have hfz13_0 := blk_frozen BK367.out 0; have hfz13_1 := blk_frozen BK367.out 1; have hfz13_2 := blk_frozen BK367.out 2; have hfz13_3 := blk_frozen BK367.out 3)); try go_wp2_with (first | ((with_reducible refine gate_dst (N := 14) rfl ?_); (try (refine gate_guard (by rfl) ?_; dsimp only)); refine Kd.N_lit k27 _ 27 ?hg (N' := 14) ?hd (xs := ([(⟨true, l0_1, l0_2, l0_3⟩ : S27)] : List (S27))) (inner := [.bool true, .slice A0_1 l0_1.length c0_1, .slice A0_2 l0_2.length c0_2, .slice A0_3 l0_3.length c0_3]) (ok := (fun k_ => ((P0_1_ k_ ∨ P0_2_ k_ ∨ P0_3_ k_) ∨ w.heap.size ≤ k_) ∧ k_ ≠ gb367)) (okp := (fun k_ => ((P0_1_ k_ ∨ P0_2_ k_ ∨ P0_3_ k_) ∨ w.heap.size ≤ k_) ∧ k_ ≠ gb367)) ?hr ?hp (fun _ hk => hk) ((show ∀ k_, w5.heap.size ≤ k_ → (fun k_ => ((P0_1_ k_ ∨ P0_2_ k_ ∨ P0_3_ k_) ∨ w.heap.size ≤ k_) ∧ k_ ≠ gb367) k_ from fun k_ hk => ⟨(.inr (Nat.le_trans (below_size (by repeat (first | (with_reducible first | exact HB.out | apply below_alloc | apply pw_below_drewN | apply below_drew1 | refine below_set ?_ GE367.out) | exact HB.out))) hk)), Kd.freshB (g := gb367) (o := .cells #[.bool true, .slice A0_1 l0_1.length c0_1, .slice A0_2 l0_2.length c0_2, .slice A0_3 l0_3.length c0_3] 27 (0, 0)) (by (with_reducible repeat (first | refine blk_drewN ?_ _ | refine blk_drew ?_ | refine blk_alloc ?_ _)); exact BK367.out) k_ hk⟩) _ (Nat.le_refl _)) (Below.refl _ _) (Nat.le_refl _) (by simp) ?_; (case hd => rfl); (case hg => rfl); (case hr => first | (go_simp; done) | (go_simp; rfl)); (case hp => exact (Reps.c4 (show Kd.FK k27 _ _ (⟨true, l0_1, l0_2, l0_3⟩ : S27) [.bool true, .slice A0_1 l0_1.length c0_1, .slice A0_2 l0_2.length c0_2, .slice A0_3 l0_3.length c0_3] from (k27_mkF _ _ (⟨true, l0_1, l0_2, l0_3⟩ : S27) (Kd.V_reads' (Kd.V_mono (ok' := (fun k_ => ((P0_1_ k_ ∨ P0_2_ k_ ∨ P0_3_ k_) ∨ w.heap.size ≤ k_) ∧ k_ ≠ gb367)) (HO0_1.out) (fun k_ hk => ⟨hk.1, hk.2⟩))).2.1 (Kd.V_F (Kd.V_mono (ok' := (fun k_ => ((P0_1_ k_ ∨ P0_2_ k_ ∨ P0_3_ k_) ∨ w.heap.size ≤ k_) ∧ k_ ≠ gb367)) (HO0_1.out) (fun k_ hk => ⟨hk.1, hk.2⟩))) (Kd.V_reads' (Kd.V_mono (ok' := (fun k_ => ((P0_1_ k_ ∨ P0_2_ k_ ∨ P0_3_ k_) ∨ w.heap.size ≤ k_) ∧ k_ ≠ gb367)) (HO0_2.out) (fun k_ hk => ⟨hk.1, hk.2⟩))).2.1 (Kd.V_F (Kd.V_mono (ok' := (fun k_ => ((P0_1_ k_ ∨ P0_2_ k_ ∨ P0_3_ k_) ∨ w.heap.size ≤ k_) ∧ k_ ≠ gb367)) (HO0_2.out) (fun k_ hk => ⟨hk.1, hk.2⟩))) (Kd.V_reads' (Kd.V_mono (ok' := (fun k_ => ((P0_1_ k_ ∨ P0_2_ k_ ∨ P0_3_ k_) ∨ w.heap.size ≤ k_) ∧ k_ ≠ gb367)) (HO0_3.out) (fun k_ hk => ⟨hk.1, hk.2⟩))).2.1 (Kd.V_F (Kd.V_mono (ok' := (fun k_ => ((P0_1_ k_ ∨ P0_2_ k_ ∨ P0_3_ k_) ∨ w.heap.size ≤ k_) ∧ k_ ≠ gb367)) (HO0_3.out) (fun k_ hk => ⟨hk.1, hk.2⟩))))) (Reps.none _ _))); intro v370 w10 ho11 hb hg_ hnew_; clear hg_ hnew_; rw [← Ny369.out] at ho11; have n0_ := am (Kd.V_elder' (by (with_reducible repeat (first | apply vA | apply vN | apply vD)); exact HO0_1.out) (Kd.N_base ho11) hb); have n1_ := am (Kd.V_elder' (by (with_reducible repeat (first | apply vA | apply vN | apply vD)); exact HO0_2.out) (Kd.N_base ho11) hb); have n2_ := am (Kd.V_elder' (by (with_reducible repeat (first | apply vA | apply vN | apply vD)); exact HO0_3.out) (Kd.N_base ho11) hb); have n3_ := am (Kd.N_lower ho11 (below_size (by repeat (first | (with_reducible first | exact HB.out | apply below_alloc | apply pw_below_drewN | apply below_drew1 | refine below_set ?_ GE367.out) | exact HB.out)))); have n4_ := am (blk_below (g := gb367) (o := .cells #[.bool true, .slice A0_1 l0_1.length c0_1, .slice A0_2 l0_2.length c0_2, .slice A0_3 l0_3.length c0_3] 27 (0, 0)) (by (with_reducible repeat (first | refine blk_drewN ?_ _ | refine blk_drew ?_ | refine blk_alloc ?_ _)); exact BK367.out) hb); have n5_ := am (below_step (by repeat (first | (with_reducible first | exact HB.out | apply below_alloc | apply pw_below_drewN | apply below_drew1 | refine below_set ?_ GE367.out) | exact HB.out)) hb); clear HO0_1; clear HO0_2; clear HO0_3; clear BK367; clear HB; have HO0_1 := n0_; have HO0_2 := n1_; have HO0_3 := n2_; have HO371 := n3_; have BK367 := n4_; have HB := n5_; clear n0_ n1_ n2_ n3_ n4_ n5_; clear hb ho11; obtain ⟨Ao12, co12, eo12⟩ := Kd.N_slice HO371.out; subst eo12) | (go_at_call 32; (with_reducible refine (sennitref07_Few.calls k _ _ y369 true _ ?side1 ?side2 A6.out).mono ?_); (case side1 => repeat (first | exact (Kd.N_reads' HO371.out).2.2 | (with_reducible refine Kd.C_alloc ?_ _) | (with_reducible refine Kd.C_drewN ?_ _) | (with_reducible refine Kd.C_drew ?_))); (case side2 => exact (Kd.N_reads' HO371.out).2.1); rintro e w' ⟨rfl, ⟨nd, rfl⟩⟩; (try first | exact ⟨rfl, _, World.drewN_drewN _ _ _⟩ | exact ⟨rfl, _, Eq.trans (World.drewN_drewN _ _ _) (congrArg (World.drewN _) (Nat.add_assoc _ _ _))⟩); have hcz13_0 : w10.cell? ⟨gb367, 0, none⟩ = some (.bool true) := (blk_cell BK367.out 0).trans rfl; have hcz13_1 : w10.cell? ⟨gb367, 1, none⟩ = some (.slice A0_1 l0_1.length c0_1) := (blk_cell BK367.out 1).trans rfl; have hcz13_2 : w10.cell? ⟨gb367, 2, none⟩ = some (.slice A0_2 l0_2.length c0_2) := (blk_cell BK367.out 2).trans rfl; have hcz13_3 : w10.cell? ⟨gb367, 3, none⟩ = some (.slice A0_3 l0_3.length c0_3) := (blk_cell BK367.out 3).trans rfl; have hfz13_0 := blk_frozen BK367.out 0; have hfz13_1 := blk_frozen BK367.out 1; have hfz13_2 := blk_frozen BK367.out 2; have hfz13_3 := blk_frozen BK367.out 3)))
    go_meet
    case rel => exact ⟨_, (((l0_3.length : Int) == 0)), (by first | rfl | (simp; done) | (simp [*]; done)), H', ⟨by first | omega | exact Nat.le_refl _⟩, ⟨by (with_reducible repeat (first | apply vA | apply vN | apply vD)); exact Kd.V_mono HO0_1.out (fun _ hk => ⟨hk.1.1, hk.1.2⟩)⟩, ⟨by (with_reducible repeat (first | apply vA | apply vN | apply vD)); exact Kd.V_mono HO0_2.out (fun _ hk => ⟨hk.1.1, hk.1.2⟩)⟩, ⟨by (with_reducible repeat (first | apply vA | apply vN | apply vD)); exact Kd.V_mono HO0_3.out (fun _ hk => ⟨hk.1.1, hk.1.2⟩)⟩, ⟨by (with_reducible repeat (first | refine blk_drewN ?_ _ | refine blk_drew ?_ | refine blk_alloc ?_ _)); exact BK367.out⟩, ⟨by repeat (first | (with_reducible first | exact HB.out | apply below_alloc | apply pw_below_drewN | apply below_drew1 | refine below_set ?_ GE367.out) | exact HB.out)⟩⟩
   ·replace c8 := Bool.eq_false_iff.mpr c8
    subst c8
    have H1 : (sennitlaw10_ZealEnds.j0 k t368 true false l0_1 l0_2 l0_3) = some r := by rw [if_neg (show ¬ (false = true) by decide)] at H; exact H
    clear H
    have H := H1
    clear H1
    have H' := am H
    clear H
    have hcz14_0 : w5.cell? ⟨gb367, 0, none⟩ = some (.bool false) := (blk_cell BK367.out 0).trans rfl
    have hcz14_1 : w5.cell? ⟨gb367, 1, none⟩ = some (.slice A0_1 l0_1.length c0_1) := (blk_cell BK367.out 1).trans rfl
    have hcz14_2 : w5.cell? ⟨gb367, 2, none⟩ = some (.slice A0_2 l0_2.length c0_2) := (blk_cell BK367.out 2).trans rfl
    have hcz14_3 : w5.cell? ⟨gb367, 3, none⟩ = some (.slice A0_3 l0_3.length c0_3) := (blk_cell BK367.out 3).trans rfl
    have hfz14_0 := blk_frozen BK367.out 0
    have hfz14_1 := blk_frozen BK367.out 1
    have hfz14_2 := blk_frozen BK367.out 2
    have hfz14_3 := blk_frozen BK367.out 3
    go_wp2_with (first | ((with_reducible refine gate_dst (N := 14) rfl ?_); (try (refine gate_guard (by rfl) ?_; dsimp only)); refine Kd.N_lit k27 _ 27 ?hg (N' := 14) ?hd (xs := ([(⟨false, l0_1, l0_2, l0_3⟩ : S27)] : List (S27))) (inner := [.bool false, .slice A0_1 l0_1.length c0_1, .slice A0_2 l0_2.length c0_2, .slice A0_3 l0_3.length c0_3]) (ok := (fun k_ => ((P0_1_ k_ ∨ P0_2_ k_ ∨ P0_3_ k_) ∨ w.heap.size ≤ k_) ∧ k_ ≠ gb367)) (okp := (fun k_ => ((P0_1_ k_ ∨ P0_2_ k_ ∨ P0_3_ k_) ∨ w.heap.size ≤ k_) ∧ k_ ≠ gb367)) ?hr ?hp (fun _ hk => hk) ((show ∀ k_, w5.heap.size ≤ k_ → (fun k_ => ((P0_1_ k_ ∨ P0_2_ k_ ∨ P0_3_ k_) ∨ w.heap.size ≤ k_) ∧ k_ ≠ gb367) k_ from fun k_ hk => ⟨(.inr (Nat.le_trans (below_size (by repeat (first | (with_reducible first | exact HB.out | apply below_alloc | apply pw_below_drewN | apply below_drew1 | refine below_set ?_ GE367.out) | exact HB.out))) hk)), Kd.freshB (g := gb367) (o := .cells #[.bool false, .slice A0_1 l0_1.length c0_1, .slice A0_2 l0_2.length c0_2, .slice A0_3 l0_3.length c0_3] 27 (0, 0)) (by (with_reducible repeat (first | refine blk_drewN ?_ _ | refine blk_drew ?_ | refine blk_alloc ?_ _)); exact BK367.out) k_ hk⟩) _ (Nat.le_refl _)) (Below.refl _ _) (Nat.le_refl _) (by simp) ?_; (case hd => rfl); (case hg => rfl); (case hr => first | (go_simp; done) | (go_simp; rfl)); (case hp => exact (Reps.c4 (show Kd.FK k27 _ _ (⟨false, l0_1, l0_2, l0_3⟩ : S27) [.bool false, .slice A0_1 l0_1.length c0_1, .slice A0_2 l0_2.length c0_2, .slice A0_3 l0_3.length c0_3] from (k27_mkF _ _ (⟨false, l0_1, l0_2, l0_3⟩ : S27) (Kd.V_reads' (Kd.V_mono (ok' := (fun k_ => ((P0_1_ k_ ∨ P0_2_ k_ ∨ P0_3_ k_) ∨ w.heap.size ≤ k_) ∧ k_ ≠ gb367)) (HO0_1.out) (fun k_ hk => ⟨hk.1, hk.2⟩))).2.1 (Kd.V_F (Kd.V_mono (ok' := (fun k_ => ((P0_1_ k_ ∨ P0_2_ k_ ∨ P0_3_ k_) ∨ w.heap.size ≤ k_) ∧ k_ ≠ gb367)) (HO0_1.out) (fun k_ hk => ⟨hk.1, hk.2⟩))) (Kd.V_reads' (Kd.V_mono (ok' := (fun k_ => ((P0_1_ k_ ∨ P0_2_ k_ ∨ P0_3_ k_) ∨ w.heap.size ≤ k_) ∧ k_ ≠ gb367)) (HO0_2.out) (fun k_ hk => ⟨hk.1, hk.2⟩))).2.1 (Kd.V_F (Kd.V_mono (ok' := (fun k_ => ((P0_1_ k_ ∨ P0_2_ k_ ∨ P0_3_ k_) ∨ w.heap.size ≤ k_) ∧ k_ ≠ gb367)) (HO0_2.out) (fun k_ hk => ⟨hk.1, hk.2⟩))) (Kd.V_reads' (Kd.V_mono (ok' := (fun k_ => ((P0_1_ k_ ∨ P0_2_ k_ ∨ P0_3_ k_) ∨ w.heap.size ≤ k_) ∧ k_ ≠ gb367)) (HO0_3.out) (fun k_ hk => ⟨hk.1, hk.2⟩))).2.1 (Kd.V_F (Kd.V_mono (ok' := (fun k_ => ((P0_1_ k_ ∨ P0_2_ k_ ∨ P0_3_ k_) ∨ w.heap.size ≤ k_) ∧ k_ ≠ gb367)) (HO0_3.out) (fun k_ hk => ⟨hk.1, hk.2⟩))))) (Reps.none _ _))); intro v370 w15 ho16 hb hg_ hnew_; clear hg_ hnew_; rw [← Ny369.out] at ho16; have n0_ := am (Kd.V_elder' (by (with_reducible repeat (first | apply vA | apply vN | apply vD)); exact HO0_1.out) (Kd.N_base ho16) hb); have n1_ := am (Kd.V_elder' (by (with_reducible repeat (first | apply vA | apply vN | apply vD)); exact HO0_2.out) (Kd.N_base ho16) hb); have n2_ := am (Kd.V_elder' (by (with_reducible repeat (first | apply vA | apply vN | apply vD)); exact HO0_3.out) (Kd.N_base ho16) hb); have n3_ := am (Kd.N_lower ho16 (below_size (by repeat (first | (with_reducible first | exact HB.out | apply below_alloc | apply pw_below_drewN | apply below_drew1 | refine below_set ?_ GE367.out) | exact HB.out)))); have n4_ := am (blk_below (g := gb367) (o := .cells #[.bool false, .slice A0_1 l0_1.length c0_1, .slice A0_2 l0_2.length c0_2, .slice A0_3 l0_3.length c0_3] 27 (0, 0)) (by (with_reducible repeat (first | refine blk_drewN ?_ _ | refine blk_drew ?_ | refine blk_alloc ?_ _)); exact BK367.out) hb); have n5_ := am (below_step (by repeat (first | (with_reducible first | exact HB.out | apply below_alloc | apply pw_below_drewN | apply below_drew1 | refine below_set ?_ GE367.out) | exact HB.out)) hb); clear HO0_1; clear HO0_2; clear HO0_3; clear BK367; clear HB; have HO0_1 := n0_; have HO0_2 := n1_; have HO0_3 := n2_; have HO371 := n3_; have BK367 := n4_; have HB := n5_; clear n0_ n1_ n2_ n3_ n4_ n5_; clear hb ho16; obtain ⟨Ao17, co17, eo17⟩ := Kd.N_slice HO371.out; subst eo17) | (go_at_call 32; (with_reducible refine (sennitref07_Few.calls k _ _ y369 true _ ?side1 ?side2 A6.out).mono ?_); (case side1 => repeat (first | exact (Kd.N_reads' HO371.out).2.2 | (with_reducible refine Kd.C_alloc ?_ _) | (with_reducible refine Kd.C_drewN ?_ _) | (with_reducible refine Kd.C_drew ?_))); (case side2 => exact (Kd.N_reads' HO371.out).2.1); rintro e w' ⟨rfl, ⟨nd, rfl⟩⟩; (try first | exact ⟨rfl, _, World.drewN_drewN _ _ _⟩ | exact ⟨rfl, _, Eq.trans (World.drewN_drewN _ _ _) (congrArg (World.drewN _) (Nat.add_assoc _ _ _))⟩); have hcz18_0 : w15.cell? ⟨gb367, 0, none⟩ = some (.bool false) := (blk_cell BK367.out 0).trans rfl; have hcz18_1 : w15.cell? ⟨gb367, 1, none⟩ = some (.slice A0_1 l0_1.length c0_1) := (blk_cell BK367.out 1).trans rfl; have hcz18_2 : w15.cell? ⟨gb367, 2, none⟩ = some (.slice A0_2 l0_2.length c0_2) := (blk_cell BK367.out 2).trans rfl; have hcz18_3 : w15.cell? ⟨gb367, 3, none⟩ = some (.slice A0_3 l0_3.length c0_3) := (blk_cell BK367.out 3).trans rfl; have hfz18_0 := blk_frozen BK367.out 0; have hfz18_1 := blk_frozen BK367.out 1; have hfz18_2 := blk_frozen BK367.out 2; have hfz18_3 := blk_frozen BK367.out 3))
    repeat (go_quiet (first | ((with_reducible refine gate_dst (N := 14) rfl ?_); (try (refine gate_guard (by rfl) ?_; dsimp only)); refine Kd.N_lit k27 _ 27 ?hg (N' := 14) ?hd (xs := ([(⟨false, l0_1, l0_2, l0_3⟩ : S27)] : List (S27))) (inner := [.bool false, .slice A0_1 l0_1.length c0_1, .slice A0_2 l0_2.length c0_2, .slice A0_3 l0_3.length c0_3]) (ok := (fun k_ => ((P0_1_ k_ ∨ P0_2_ k_ ∨ P0_3_ k_) ∨ w.heap.size ≤ k_) ∧ k_ ≠ gb367)) (okp := (fun k_ => ((P0_1_ k_ ∨ P0_2_ k_ ∨ P0_3_ k_) ∨ w.heap.size ≤ k_) ∧ k_ ≠ gb367)) ?hr ?hp (fun _ hk => hk) ((show ∀ k_, w5.heap.size ≤ k_ → (fun k_ => ((P0_1_ k_ ∨ P0_2_ k_ ∨ P0_3_ k_) ∨ w.heap.size ≤ k_) ∧ k_ ≠ gb367) k_ from fun k_ hk => ⟨(.inr (Nat.le_trans (below_size (by repeat (first | (with_reducible first | exact HB.out | apply below_alloc | apply pw_below_drewN | apply below_drew1 | refine below_set ?_ GE367.out) | exact HB.out))) hk)), Kd.freshB (g := gb367) (o := .cells #[.bool false, .slice A0_1 l0_1.length c0_1, .slice A0_2 l0_2.length c0_2, .slice A0_3 l0_3.length c0_3] 27 (0, 0)) (by (with_reducible repeat (first | refine blk_drewN ?_ _ | refine blk_drew ?_ | refine blk_alloc ?_ _)); exact BK367.out) k_ hk⟩) _ (Nat.le_refl _)) (Below.refl _ _) (Nat.le_refl _) (by simp) ?_; (case hd => rfl); (case hg => rfl); (case hr => first | (go_simp; done) | (go_simp; rfl)); (case hp => exact (Reps.c4 (show Kd.FK k27 _ _ (⟨false, l0_1, l0_2, l0_3⟩ : S27) [.bool false, .slice A0_1 l0_1.length c0_1, .slice A0_2 l0_2.length c0_2, .slice A0_3 l0_3.length c0_3] from (k27_mkF _ _ (⟨false, l0_1, l0_2, l0_3⟩ : S27) (Kd.V_reads' (Kd.V_mono (ok' := (fun k_ => ((P0_1_ k_ ∨ P0_2_ k_ ∨ P0_3_ k_) ∨ w.heap.size ≤ k_) ∧ k_ ≠ gb367)) (HO0_1.out) (fun k_ hk => ⟨hk.1, hk.2⟩))).2.1 (Kd.V_F (Kd.V_mono (ok' := (fun k_ => ((P0_1_ k_ ∨ P0_2_ k_ ∨ P0_3_ k_) ∨ w.heap.size ≤ k_) ∧ k_ ≠ gb367)) (HO0_1.out) (fun k_ hk => ⟨hk.1, hk.2⟩))) (Kd.V_reads' (Kd.V_mono (ok' := (fun k_ => ((P0_1_ k_ ∨ P0_2_ k_ ∨ P0_3_ k_) ∨ w.heap.size ≤ k_) ∧ k_ ≠ gb367)) (HO0_2.out) (fun k_ hk => ⟨hk.1, hk.2⟩))).2.1 (Kd.V_F (Kd.V_mono (ok' := (fun k_ => ((P0_1_ k_ ∨ P0_2_ k_ ∨ P0_3_ k_) ∨ w.heap.size ≤ k_) ∧ k_ ≠ gb367)) (HO0_2.out) (fun k_ hk => ⟨hk.1, hk.2⟩))) (Kd.V_reads' (Kd.V_mono (ok' := (fun k_ => ((P0_1_ k_ ∨ P0_2_ k_ ∨ P0_3_ k_) ∨ w.heap.size ≤ k_) ∧ k_ ≠ gb367)) (HO0_3.out) (fun k_ hk => ⟨hk.1, hk.2⟩))).2.1 (Kd.V_F (Kd.V_mono (ok' := (fun k_ => ((P0_1_ k_ ∨ P0_2_ k_ ∨ P0_3_ k_) ∨ w.heap.size ≤ k_) ∧ k_ ≠ gb367)) (HO0_3.out) (fun k_ hk => ⟨hk.1, hk.2⟩))))) (Reps.none _ _))); intro v370 w15 ho16 hb hg_ hnew_; clear hg_ hnew_; rw [← Ny369.out] at ho16; have n0_ := am (Kd.V_elder' (by (with_reducible repeat (first | apply vA | apply vN | apply vD)); exact HO0_1.out) (Kd.N_base ho16) hb); have n1_ := am (Kd.V_elder' (by (with_reducible repeat (first | apply vA | apply vN | apply vD)); exact HO0_2.out) (Kd.N_base ho16) hb); have n2_ := am (Kd.V_elder' (by (with_reducible repeat (first | apply vA | apply vN | apply vD)); exact HO0_3.out) (Kd.N_base ho16) hb); have n3_ := am (Kd.N_lower ho16 (below_size (by repeat (first | (with_reducible first | exact HB.out | apply below_alloc | apply pw_below_drewN | apply below_drew1 | refine below_set ?_ GE367.out) | exact HB.out)))); have n4_ := am (blk_below (g := gb367) (o := .cells #[.bool false, .slice A0_1 l0_1.length c0_1, .slice A0_2 l0_2.length c0_2, .slice A0_3 l0_3.length c0_3] 27 (0, 0)) (by (with_reducible repeat (first | refine blk_drewN ?_ _ | refine blk_drew ?_ | refine blk_alloc ?_ _)); exact BK367.out) hb); have n5_ := am (below_step (by repeat (first | (with_reducible first | exact HB.out | apply below_alloc | apply pw_below_drewN | apply below_drew1 | refine below_set ?_ GE367.out) | exact HB.out)) hb); clear HO0_1; clear HO0_2; clear HO0_3; clear BK367; clear HB; have HO0_1 := n0_; have HO0_2 := n1_; have HO0_3 := n2_; have HO371 := n3_; have BK367 := n4_; have HB := n5_; clear n0_ n1_ n2_ n3_ n4_ n5_; clear hb ho16; obtain ⟨Ao17, co17, eo17⟩ := Kd.N_slice HO371.out; subst eo17) | (go_at_call 32; (with_reducible refine (sennitref07_Few.calls k _ _ y369 true _ ?side1 ?side2 A6.out).mono ?_); (case side1 => repeat (first | exact (Kd.N_reads' HO371.out).2.2 | (with_reducible refine Kd.C_alloc ?_ _) | (with_reducible refine Kd.C_drewN ?_ _) | (with_reducible refine Kd.C_drew ?_))); (case side2 => exact (Kd.N_reads' HO371.out).2.1); rintro e w' ⟨rfl, ⟨nd, rfl⟩⟩; (try first | exact ⟨rfl, _, World.drewN_drewN _ _ _⟩ | exact ⟨rfl, _, Eq.trans (World.drewN_drewN _ _ _) (congrArg (World.drewN _) (Nat.add_assoc _ _ _))⟩); have hcz18_0 : w15.cell? ⟨gb367, 0, none⟩ = some (.bool false) := (blk_cell BK367.out 0).trans rfl; have hcz18_1 : w15.cell? ⟨gb367, 1, none⟩ = some (.slice A0_1 l0_1.length c0_1) := (blk_cell BK367.out 1).trans rfl; have hcz18_2 : w15.cell? ⟨gb367, 2, none⟩ = some (.slice A0_2 l0_2.length c0_2) := (blk_cell BK367.out 2).trans rfl; have hcz18_3 : w15.cell? ⟨gb367, 3, none⟩ = some (.slice A0_3 l0_3.length c0_3) := (blk_cell BK367.out 3).trans rfl; have hfz18_0 := blk_frozen BK367.out 0; have hfz18_1 := blk_frozen BK367.out 1; have hfz18_2 := blk_frozen BK367.out 2; have hfz18_3 := blk_frozen BK367.out 3)); try go_wp2_with (first | ((with_reducible refine gate_dst (N := 14) rfl ?_); (try (refine gate_guard (by rfl) ?_; dsimp only)); refine Kd.N_lit k27 _ 27 ?hg (N' := 14) ?hd (xs := ([(⟨false, l0_1, l0_2, l0_3⟩ : S27)] : List (S27))) (inner := [.bool false, .slice A0_1 l0_1.length c0_1, .slice A0_2 l0_2.length c0_2, .slice A0_3 l0_3.length c0_3]) (ok := (fun k_ => ((P0_1_ k_ ∨ P0_2_ k_ ∨ P0_3_ k_) ∨ w.heap.size ≤ k_) ∧ k_ ≠ gb367)) (okp := (fun k_ => ((P0_1_ k_ ∨ P0_2_ k_ ∨ P0_3_ k_) ∨ w.heap.size ≤ k_) ∧ k_ ≠ gb367)) ?hr ?hp (fun _ hk => hk) ((show ∀ k_, w5.heap.size ≤ k_ → (fun k_ => ((P0_1_ k_ ∨ P0_2_ k_ ∨ P0_3_ k_) ∨ w.heap.size ≤ k_) ∧ k_ ≠ gb367) k_ from fun k_ hk => ⟨(.inr (Nat.le_trans (below_size (by repeat (first | (with_reducible first | exact HB.out | apply below_alloc | apply pw_below_drewN | apply below_drew1 | refine below_set ?_ GE367.out) | exact HB.out))) hk)), Kd.freshB (g := gb367) (o := .cells #[.bool false, .slice A0_1 l0_1.length c0_1, .slice A0_2 l0_2.length c0_2, .slice A0_3 l0_3.length c0_3] 27 (0, 0)) (by (with_reducible repeat (first | refine blk_drewN ?_ _ | refine blk_drew ?_ | refine blk_alloc ?_ _)); exact BK367.out) k_ hk⟩) _ (Nat.le_refl _)) (Below.refl _ _) (Nat.le_refl _) (by simp) ?_; (case hd => rfl); (case hg => rfl); (case hr => first | (go_simp; done) | (go_simp; rfl)); (case hp => exact (Reps.c4 (show Kd.FK k27 _ _ (⟨false, l0_1, l0_2, l0_3⟩ : S27) [.bool false, .slice A0_1 l0_1.length c0_1, .slice A0_2 l0_2.length c0_2, .slice A0_3 l0_3.length c0_3] from (k27_mkF _ _ (⟨false, l0_1, l0_2, l0_3⟩ : S27) (Kd.V_reads' (Kd.V_mono (ok' := (fun k_ => ((P0_1_ k_ ∨ P0_2_ k_ ∨ P0_3_ k_) ∨ w.heap.size ≤ k_) ∧ k_ ≠ gb367)) (HO0_1.out) (fun k_ hk => ⟨hk.1, hk.2⟩))).2.1 (Kd.V_F (Kd.V_mono (ok' := (fun k_ => ((P0_1_ k_ ∨ P0_2_ k_ ∨ P0_3_ k_) ∨ w.heap.size ≤ k_) ∧ k_ ≠ gb367)) (HO0_1.out) (fun k_ hk => ⟨hk.1, hk.2⟩))) (Kd.V_reads' (Kd.V_mono (ok' := (fun k_ => ((P0_1_ k_ ∨ P0_2_ k_ ∨ P0_3_ k_) ∨ w.heap.size ≤ k_) ∧ k_ ≠ gb367)) (HO0_2.out) (fun k_ hk => ⟨hk.1, hk.2⟩))).2.1 (Kd.V_F (Kd.V_mono (ok' := (fun k_ => ((P0_1_ k_ ∨ P0_2_ k_ ∨ P0_3_ k_) ∨ w.heap.size ≤ k_) ∧ k_ ≠ gb367)) (HO0_2.out) (fun k_ hk => ⟨hk.1, hk.2⟩))) (Kd.V_reads' (Kd.V_mono (ok' := (fun k_ => ((P0_1_ k_ ∨ P0_2_ k_ ∨ P0_3_ k_) ∨ w.heap.size ≤ k_) ∧ k_ ≠ gb367)) (HO0_3.out) (fun k_ hk => ⟨hk.1, hk.2⟩))).2.1 (Kd.V_F (Kd.V_mono (ok' := (fun k_ => ((P0_1_ k_ ∨ P0_2_ k_ ∨ P0_3_ k_) ∨ w.heap.size ≤ k_) ∧ k_ ≠ gb367)) (HO0_3.out) (fun k_ hk => ⟨hk.1, hk.2⟩))))) (Reps.none _ _))); intro v370 w15 ho16 hb hg_ hnew_; clear hg_ hnew_; rw [← Ny369.out] at ho16; have n0_ := am (Kd.V_elder' (by (with_reducible repeat (first | apply vA | apply vN | apply vD)); exact HO0_1.out) (Kd.N_base ho16) hb); have n1_ := am (Kd.V_elder' (by (with_reducible repeat (first | apply vA | apply vN | apply vD)); exact HO0_2.out) (Kd.N_base ho16) hb); have n2_ := am (Kd.V_elder' (by (with_reducible repeat (first | apply vA | apply vN | apply vD)); exact HO0_3.out) (Kd.N_base ho16) hb); have n3_ := am (Kd.N_lower ho16 (below_size (by repeat (first | (with_reducible first | exact HB.out | apply below_alloc | apply pw_below_drewN | apply below_drew1 | refine below_set ?_ GE367.out) | exact HB.out)))); have n4_ := am (blk_below (g := gb367) (o := .cells #[.bool false, .slice A0_1 l0_1.length c0_1, .slice A0_2 l0_2.length c0_2, .slice A0_3 l0_3.length c0_3] 27 (0, 0)) (by (with_reducible repeat (first | refine blk_drewN ?_ _ | refine blk_drew ?_ | refine blk_alloc ?_ _)); exact BK367.out) hb); have n5_ := am (below_step (by repeat (first | (with_reducible first | exact HB.out | apply below_alloc | apply pw_below_drewN | apply below_drew1 | refine below_set ?_ GE367.out) | exact HB.out)) hb); clear HO0_1; clear HO0_2; clear HO0_3; clear BK367; clear HB; have HO0_1 := n0_; have HO0_2 := n1_; have HO0_3 := n2_; have HO371 := n3_; have BK367 := n4_; have HB := n5_; clear n0_ n1_ n2_ n3_ n4_ n5_; clear hb ho16; obtain ⟨Ao17, co17, eo17⟩ := Kd.N_slice HO371.out; subst eo17) | (go_at_call 32; (with_reducible refine (sennitref07_Few.calls k _ _ y369 true _ ?side1 ?side2 A6.out).mono ?_); (case side1 => repeat (first | exact (Kd.N_reads' HO371.out).2.2 | (with_reducible refine Kd.C_alloc ?_ _) | (with_reducible refine Kd.C_drewN ?_ _) | (with_reducible refine Kd.C_drew ?_))); (case side2 => exact (Kd.N_reads' HO371.out).2.1); rintro e w' ⟨rfl, ⟨nd, rfl⟩⟩; (try first | exact ⟨rfl, _, World.drewN_drewN _ _ _⟩ | exact ⟨rfl, _, Eq.trans (World.drewN_drewN _ _ _) (congrArg (World.drewN _) (Nat.add_assoc _ _ _))⟩); have hcz18_0 : w15.cell? ⟨gb367, 0, none⟩ = some (.bool false) := (blk_cell BK367.out 0).trans rfl; have hcz18_1 : w15.cell? ⟨gb367, 1, none⟩ = some (.slice A0_1 l0_1.length c0_1) := (blk_cell BK367.out 1).trans rfl; have hcz18_2 : w15.cell? ⟨gb367, 2, none⟩ = some (.slice A0_2 l0_2.length c0_2) := (blk_cell BK367.out 2).trans rfl; have hcz18_3 : w15.cell? ⟨gb367, 3, none⟩ = some (.slice A0_3 l0_3.length c0_3) := (blk_cell BK367.out 3).trans rfl; have hfz18_0 := blk_frozen BK367.out 0; have hfz18_1 := blk_frozen BK367.out 1; have hfz18_2 := blk_frozen BK367.out 2; have hfz18_3 := blk_frozen BK367.out 3)))
    go_meet
    case rel => exact ⟨_, (true), (by first | rfl | (simp; done) | (simp [*]; done)), H', ⟨by first | omega | exact Nat.le_refl _⟩, ⟨by (with_reducible repeat (first | apply vA | apply vN | apply vD)); exact Kd.V_mono HO0_1.out (fun _ hk => ⟨hk.1.1, hk.1.2⟩)⟩, ⟨by (with_reducible repeat (first | apply vA | apply vN | apply vD)); exact Kd.V_mono HO0_2.out (fun _ hk => ⟨hk.1.1, hk.1.2⟩)⟩, ⟨by (with_reducible repeat (first | apply vA | apply vN | apply vD)); exact Kd.V_mono HO0_3.out (fun _ hk => ⟨hk.1.1, hk.1.2⟩)⟩, ⟨by (with_reducible repeat (first | refine blk_drewN ?_ _ | refine blk_drew ?_ | refine blk_alloc ?_ _)); exact BK367.out⟩, ⟨by repeat (first | (with_reducible first | exact HB.out | apply below_alloc | apply pw_below_drewN | apply below_drew1 | refine below_set ?_ GE367.out) | exact HB.out)⟩⟩
  ·replace c7 := Bool.eq_false_iff.mpr c7
   subst c7
   have H1 : (sennitlaw10_ZealEnds.j0 k t368 true a0_0 l0_1 l0_2 l0_3) = some r := by rw [if_neg (show ¬ (false = true) by decide)] at H; exact H
   clear H
   have H := H1
   clear H1
   have H' := am H
   clear H
   have hcz19_0 : w5.cell? ⟨gb367, 0, none⟩ = some (.bool a0_0) := (blk_cell BK367.out 0).trans rfl
   have hcz19_1 : w5.cell? ⟨gb367, 1, none⟩ = some (.slice A0_1 l0_1.length c0_1) := (blk_cell BK367.out 1).trans rfl
   have hcz19_2 : w5.cell? ⟨gb367, 2, none⟩ = some (.slice A0_2 l0_2.length c0_2) := (blk_cell BK367.out 2).trans rfl
   have hcz19_3 : w5.cell? ⟨gb367, 3, none⟩ = some (.slice A0_3 l0_3.length c0_3) := (blk_cell BK367.out 3).trans rfl
   have hfz19_0 := blk_frozen BK367.out 0
   have hfz19_1 := blk_frozen BK367.out 1
   have hfz19_2 := blk_frozen BK367.out 2
   have hfz19_3 := blk_frozen BK367.out 3
   go_wp2_with (first | ((with_reducible refine gate_dst (N := 14) rfl ?_); (try (refine gate_guard (by rfl) ?_; dsimp only)); refine Kd.N_lit k27 _ 27 ?hg (N' := 14) ?hd (xs := ([(⟨a0_0, l0_1, l0_2, l0_3⟩ : S27)] : List (S27))) (inner := [.bool a0_0, .slice A0_1 l0_1.length c0_1, .slice A0_2 l0_2.length c0_2, .slice A0_3 l0_3.length c0_3]) (ok := (fun k_ => ((P0_1_ k_ ∨ P0_2_ k_ ∨ P0_3_ k_) ∨ w.heap.size ≤ k_) ∧ k_ ≠ gb367)) (okp := (fun k_ => ((P0_1_ k_ ∨ P0_2_ k_ ∨ P0_3_ k_) ∨ w.heap.size ≤ k_) ∧ k_ ≠ gb367)) ?hr ?hp (fun _ hk => hk) ((show ∀ k_, w5.heap.size ≤ k_ → (fun k_ => ((P0_1_ k_ ∨ P0_2_ k_ ∨ P0_3_ k_) ∨ w.heap.size ≤ k_) ∧ k_ ≠ gb367) k_ from fun k_ hk => ⟨(.inr (Nat.le_trans (below_size (by repeat (first | (with_reducible first | exact HB.out | apply below_alloc | apply pw_below_drewN | apply below_drew1 | refine below_set ?_ GE367.out) | exact HB.out))) hk)), Kd.freshB (g := gb367) (o := .cells #[.bool a0_0, .slice A0_1 l0_1.length c0_1, .slice A0_2 l0_2.length c0_2, .slice A0_3 l0_3.length c0_3] 27 (0, 0)) (by (with_reducible repeat (first | refine blk_drewN ?_ _ | refine blk_drew ?_ | refine blk_alloc ?_ _)); exact BK367.out) k_ hk⟩) _ (Nat.le_refl _)) (Below.refl _ _) (Nat.le_refl _) (by simp) ?_; (case hd => rfl); (case hg => rfl); (case hr => first | (go_simp; done) | (go_simp; rfl)); (case hp => exact (Reps.c4 (show Kd.FK k27 _ _ (⟨a0_0, l0_1, l0_2, l0_3⟩ : S27) [.bool a0_0, .slice A0_1 l0_1.length c0_1, .slice A0_2 l0_2.length c0_2, .slice A0_3 l0_3.length c0_3] from (k27_mkF _ _ (⟨a0_0, l0_1, l0_2, l0_3⟩ : S27) (Kd.V_reads' (Kd.V_mono (ok' := (fun k_ => ((P0_1_ k_ ∨ P0_2_ k_ ∨ P0_3_ k_) ∨ w.heap.size ≤ k_) ∧ k_ ≠ gb367)) (HO0_1.out) (fun k_ hk => ⟨hk.1, hk.2⟩))).2.1 (Kd.V_F (Kd.V_mono (ok' := (fun k_ => ((P0_1_ k_ ∨ P0_2_ k_ ∨ P0_3_ k_) ∨ w.heap.size ≤ k_) ∧ k_ ≠ gb367)) (HO0_1.out) (fun k_ hk => ⟨hk.1, hk.2⟩))) (Kd.V_reads' (Kd.V_mono (ok' := (fun k_ => ((P0_1_ k_ ∨ P0_2_ k_ ∨ P0_3_ k_) ∨ w.heap.size ≤ k_) ∧ k_ ≠ gb367)) (HO0_2.out) (fun k_ hk => ⟨hk.1, hk.2⟩))).2.1 (Kd.V_F (Kd.V_mono (ok' := (fun k_ => ((P0_1_ k_ ∨ P0_2_ k_ ∨ P0_3_ k_) ∨ w.heap.size ≤ k_) ∧ k_ ≠ gb367)) (HO0_2.out) (fun k_ hk => ⟨hk.1, hk.2⟩))) (Kd.V_reads' (Kd.V_mono (ok' := (fun k_ => ((P0_1_ k_ ∨ P0_2_ k_ ∨ P0_3_ k_) ∨ w.heap.size ≤ k_) ∧ k_ ≠ gb367)) (HO0_3.out) (fun k_ hk => ⟨hk.1, hk.2⟩))).2.1 (Kd.V_F (Kd.V_mono (ok' := (fun k_ => ((P0_1_ k_ ∨ P0_2_ k_ ∨ P0_3_ k_) ∨ w.heap.size ≤ k_) ∧ k_ ≠ gb367)) (HO0_3.out) (fun k_ hk => ⟨hk.1, hk.2⟩))))) (Reps.none _ _))); intro v370 w20 ho21 hb hg_ hnew_; clear hg_ hnew_; rw [← Ny369.out] at ho21; have n0_ := am (Kd.V_elder' (by (with_reducible repeat (first | apply vA | apply vN | apply vD)); exact HO0_1.out) (Kd.N_base ho21) hb); have n1_ := am (Kd.V_elder' (by (with_reducible repeat (first | apply vA | apply vN | apply vD)); exact HO0_2.out) (Kd.N_base ho21) hb); have n2_ := am (Kd.V_elder' (by (with_reducible repeat (first | apply vA | apply vN | apply vD)); exact HO0_3.out) (Kd.N_base ho21) hb); have n3_ := am (Kd.N_lower ho21 (below_size (by repeat (first | (with_reducible first | exact HB.out | apply below_alloc | apply pw_below_drewN | apply below_drew1 | refine below_set ?_ GE367.out) | exact HB.out)))); have n4_ := am (blk_below (g := gb367) (o := .cells #[.bool a0_0, .slice A0_1 l0_1.length c0_1, .slice A0_2 l0_2.length c0_2, .slice A0_3 l0_3.length c0_3] 27 (0, 0)) (by (with_reducible repeat (first | refine blk_drewN ?_ _ | refine blk_drew ?_ | refine blk_alloc ?_ _)); exact BK367.out) hb); have n5_ := am (below_step (by repeat (first | (with_reducible first | exact HB.out | apply below_alloc | apply pw_below_drewN | apply below_drew1 | refine below_set ?_ GE367.out) | exact HB.out)) hb); clear HO0_1; clear HO0_2; clear HO0_3; clear BK367; clear HB; have HO0_1 := n0_; have HO0_2 := n1_; have HO0_3 := n2_; have HO371 := n3_; have BK367 := n4_; have HB := n5_; clear n0_ n1_ n2_ n3_ n4_ n5_; clear hb ho21; obtain ⟨Ao22, co22, eo22⟩ := Kd.N_slice HO371.out; subst eo22) | (go_at_call 32; (with_reducible refine (sennitref07_Few.calls k _ _ y369 false _ ?side1 ?side2 A6.out).mono ?_); (case side1 => repeat (first | exact (Kd.N_reads' HO371.out).2.2 | (with_reducible refine Kd.C_alloc ?_ _) | (with_reducible refine Kd.C_drewN ?_ _) | (with_reducible refine Kd.C_drew ?_))); (case side2 => exact (Kd.N_reads' HO371.out).2.1); rintro e w' ⟨rfl, ⟨nd, rfl⟩⟩; (try first | exact ⟨rfl, _, World.drewN_drewN _ _ _⟩ | exact ⟨rfl, _, Eq.trans (World.drewN_drewN _ _ _) (congrArg (World.drewN _) (Nat.add_assoc _ _ _))⟩)))
   repeat (go_quiet (first | ((with_reducible refine gate_dst (N := 14) rfl ?_); (try (refine gate_guard (by rfl) ?_; dsimp only)); refine Kd.N_lit k27 _ 27 ?hg (N' := 14) ?hd (xs := ([(⟨a0_0, l0_1, l0_2, l0_3⟩ : S27)] : List (S27))) (inner := [.bool a0_0, .slice A0_1 l0_1.length c0_1, .slice A0_2 l0_2.length c0_2, .slice A0_3 l0_3.length c0_3]) (ok := (fun k_ => ((P0_1_ k_ ∨ P0_2_ k_ ∨ P0_3_ k_) ∨ w.heap.size ≤ k_) ∧ k_ ≠ gb367)) (okp := (fun k_ => ((P0_1_ k_ ∨ P0_2_ k_ ∨ P0_3_ k_) ∨ w.heap.size ≤ k_) ∧ k_ ≠ gb367)) ?hr ?hp (fun _ hk => hk) ((show ∀ k_, w5.heap.size ≤ k_ → (fun k_ => ((P0_1_ k_ ∨ P0_2_ k_ ∨ P0_3_ k_) ∨ w.heap.size ≤ k_) ∧ k_ ≠ gb367) k_ from fun k_ hk => ⟨(.inr (Nat.le_trans (below_size (by repeat (first | (with_reducible first | exact HB.out | apply below_alloc | apply pw_below_drewN | apply below_drew1 | refine below_set ?_ GE367.out) | exact HB.out))) hk)), Kd.freshB (g := gb367) (o := .cells #[.bool a0_0, .slice A0_1 l0_1.length c0_1, .slice A0_2 l0_2.length c0_2, .slice A0_3 l0_3.length c0_3] 27 (0, 0)) (by (with_reducible repeat (first | refine blk_drewN ?_ _ | refine blk_drew ?_ | refine blk_alloc ?_ _)); exact BK367.out) k_ hk⟩) _ (Nat.le_refl _)) (Below.refl _ _) (Nat.le_refl _) (by simp) ?_; (case hd => rfl); (case hg => rfl); (case hr => first | (go_simp; done) | (go_simp; rfl)); (case hp => exact (Reps.c4 (show Kd.FK k27 _ _ (⟨a0_0, l0_1, l0_2, l0_3⟩ : S27) [.bool a0_0, .slice A0_1 l0_1.length c0_1, .slice A0_2 l0_2.length c0_2, .slice A0_3 l0_3.length c0_3] from (k27_mkF _ _ (⟨a0_0, l0_1, l0_2, l0_3⟩ : S27) (Kd.V_reads' (Kd.V_mono (ok' := (fun k_ => ((P0_1_ k_ ∨ P0_2_ k_ ∨ P0_3_ k_) ∨ w.heap.size ≤ k_) ∧ k_ ≠ gb367)) (HO0_1.out) (fun k_ hk => ⟨hk.1, hk.2⟩))).2.1 (Kd.V_F (Kd.V_mono (ok' := (fun k_ => ((P0_1_ k_ ∨ P0_2_ k_ ∨ P0_3_ k_) ∨ w.heap.size ≤ k_) ∧ k_ ≠ gb367)) (HO0_1.out) (fun k_ hk => ⟨hk.1, hk.2⟩))) (Kd.V_reads' (Kd.V_mono (ok' := (fun k_ => ((P0_1_ k_ ∨ P0_2_ k_ ∨ P0_3_ k_) ∨ w.heap.size ≤ k_) ∧ k_ ≠ gb367)) (HO0_2.out) (fun k_ hk => ⟨hk.1, hk.2⟩))).2.1 (Kd.V_F (Kd.V_mono (ok' := (fun k_ => ((P0_1_ k_ ∨ P0_2_ k_ ∨ P0_3_ k_) ∨ w.heap.size ≤ k_) ∧ k_ ≠ gb367)) (HO0_2.out) (fun k_ hk => ⟨hk.1, hk.2⟩))) (Kd.V_reads' (Kd.V_mono (ok' := (fun k_ => ((P0_1_ k_ ∨ P0_2_ k_ ∨ P0_3_ k_) ∨ w.heap.size ≤ k_) ∧ k_ ≠ gb367)) (HO0_3.out) (fun k_ hk => ⟨hk.1, hk.2⟩))).2.1 (Kd.V_F (Kd.V_mono (ok' := (fun k_ => ((P0_1_ k_ ∨ P0_2_ k_ ∨ P0_3_ k_) ∨ w.heap.size ≤ k_) ∧ k_ ≠ gb367)) (HO0_3.out) (fun k_ hk => ⟨hk.1, hk.2⟩))))) (Reps.none _ _))); intro v370 w20 ho21 hb hg_ hnew_; clear hg_ hnew_; rw [← Ny369.out] at ho21; have n0_ := am (Kd.V_elder' (by (with_reducible repeat (first | apply vA | apply vN | apply vD)); exact HO0_1.out) (Kd.N_base ho21) hb); have n1_ := am (Kd.V_elder' (by (with_reducible repeat (first | apply vA | apply vN | apply vD)); exact HO0_2.out) (Kd.N_base ho21) hb); have n2_ := am (Kd.V_elder' (by (with_reducible repeat (first | apply vA | apply vN | apply vD)); exact HO0_3.out) (Kd.N_base ho21) hb); have n3_ := am (Kd.N_lower ho21 (below_size (by repeat (first | (with_reducible first | exact HB.out | apply below_alloc | apply pw_below_drewN | apply below_drew1 | refine below_set ?_ GE367.out) | exact HB.out)))); have n4_ := am (blk_below (g := gb367) (o := .cells #[.bool a0_0, .slice A0_1 l0_1.length c0_1, .slice A0_2 l0_2.length c0_2, .slice A0_3 l0_3.length c0_3] 27 (0, 0)) (by (with_reducible repeat (first | refine blk_drewN ?_ _ | refine blk_drew ?_ | refine blk_alloc ?_ _)); exact BK367.out) hb); have n5_ := am (below_step (by repeat (first | (with_reducible first | exact HB.out | apply below_alloc | apply pw_below_drewN | apply below_drew1 | refine below_set ?_ GE367.out) | exact HB.out)) hb); clear HO0_1; clear HO0_2; clear HO0_3; clear BK367; clear HB; have HO0_1 := n0_; have HO0_2 := n1_; have HO0_3 := n2_; have HO371 := n3_; have BK367 := n4_; have HB := n5_; clear n0_ n1_ n2_ n3_ n4_ n5_; clear hb ho21; obtain ⟨Ao22, co22, eo22⟩ := Kd.N_slice HO371.out; subst eo22) | (go_at_call 32; (with_reducible refine (sennitref07_Few.calls k _ _ y369 false _ ?side1 ?side2 A6.out).mono ?_); (case side1 => repeat (first | exact (Kd.N_reads' HO371.out).2.2 | (with_reducible refine Kd.C_alloc ?_ _) | (with_reducible refine Kd.C_drewN ?_ _) | (with_reducible refine Kd.C_drew ?_))); (case side2 => exact (Kd.N_reads' HO371.out).2.1); rintro e w' ⟨rfl, ⟨nd, rfl⟩⟩; (try first | exact ⟨rfl, _, World.drewN_drewN _ _ _⟩ | exact ⟨rfl, _, Eq.trans (World.drewN_drewN _ _ _) (congrArg (World.drewN _) (Nat.add_assoc _ _ _))⟩))); try go_wp2_with (first | ((with_reducible refine gate_dst (N := 14) rfl ?_); (try (refine gate_guard (by rfl) ?_; dsimp only)); refine Kd.N_lit k27 _ 27 ?hg (N' := 14) ?hd (xs := ([(⟨a0_0, l0_1, l0_2, l0_3⟩ : S27)] : List (S27))) (inner := [.bool a0_0, .slice A0_1 l0_1.length c0_1, .slice A0_2 l0_2.length c0_2, .slice A0_3 l0_3.length c0_3]) (ok := (fun k_ => ((P0_1_ k_ ∨ P0_2_ k_ ∨ P0_3_ k_) ∨ w.heap.size ≤ k_) ∧ k_ ≠ gb367)) (okp := (fun k_ => ((P0_1_ k_ ∨ P0_2_ k_ ∨ P0_3_ k_) ∨ w.heap.size ≤ k_) ∧ k_ ≠ gb367)) ?hr ?hp (fun _ hk => hk) ((show ∀ k_, w5.heap.size ≤ k_ → (fun k_ => ((P0_1_ k_ ∨ P0_2_ k_ ∨ P0_3_ k_) ∨ w.heap.size ≤ k_) ∧ k_ ≠ gb367) k_ from fun k_ hk => ⟨(.inr (Nat.le_trans (below_size (by repeat (first | (with_reducible first | exact HB.out | apply below_alloc | apply pw_below_drewN | apply below_drew1 | refine below_set ?_ GE367.out) | exact HB.out))) hk)), Kd.freshB (g := gb367) (o := .cells #[.bool a0_0, .slice A0_1 l0_1.length c0_1, .slice A0_2 l0_2.length c0_2, .slice A0_3 l0_3.length c0_3] 27 (0, 0)) (by (with_reducible repeat (first | refine blk_drewN ?_ _ | refine blk_drew ?_ | refine blk_alloc ?_ _)); exact BK367.out) k_ hk⟩) _ (Nat.le_refl _)) (Below.refl _ _) (Nat.le_refl _) (by simp) ?_; (case hd => rfl); (case hg => rfl); (case hr => first | (go_simp; done) | (go_simp; rfl)); (case hp => exact (Reps.c4 (show Kd.FK k27 _ _ (⟨a0_0, l0_1, l0_2, l0_3⟩ : S27) [.bool a0_0, .slice A0_1 l0_1.length c0_1, .slice A0_2 l0_2.length c0_2, .slice A0_3 l0_3.length c0_3] from (k27_mkF _ _ (⟨a0_0, l0_1, l0_2, l0_3⟩ : S27) (Kd.V_reads' (Kd.V_mono (ok' := (fun k_ => ((P0_1_ k_ ∨ P0_2_ k_ ∨ P0_3_ k_) ∨ w.heap.size ≤ k_) ∧ k_ ≠ gb367)) (HO0_1.out) (fun k_ hk => ⟨hk.1, hk.2⟩))).2.1 (Kd.V_F (Kd.V_mono (ok' := (fun k_ => ((P0_1_ k_ ∨ P0_2_ k_ ∨ P0_3_ k_) ∨ w.heap.size ≤ k_) ∧ k_ ≠ gb367)) (HO0_1.out) (fun k_ hk => ⟨hk.1, hk.2⟩))) (Kd.V_reads' (Kd.V_mono (ok' := (fun k_ => ((P0_1_ k_ ∨ P0_2_ k_ ∨ P0_3_ k_) ∨ w.heap.size ≤ k_) ∧ k_ ≠ gb367)) (HO0_2.out) (fun k_ hk => ⟨hk.1, hk.2⟩))).2.1 (Kd.V_F (Kd.V_mono (ok' := (fun k_ => ((P0_1_ k_ ∨ P0_2_ k_ ∨ P0_3_ k_) ∨ w.heap.size ≤ k_) ∧ k_ ≠ gb367)) (HO0_2.out) (fun k_ hk => ⟨hk.1, hk.2⟩))) (Kd.V_reads' (Kd.V_mono (ok' := (fun k_ => ((P0_1_ k_ ∨ P0_2_ k_ ∨ P0_3_ k_) ∨ w.heap.size ≤ k_) ∧ k_ ≠ gb367)) (HO0_3.out) (fun k_ hk => ⟨hk.1, hk.2⟩))).2.1 (Kd.V_F (Kd.V_mono (ok' := (fun k_ => ((P0_1_ k_ ∨ P0_2_ k_ ∨ P0_3_ k_) ∨ w.heap.size ≤ k_) ∧ k_ ≠ gb367)) (HO0_3.out) (fun k_ hk => ⟨hk.1, hk.2⟩))))) (Reps.none _ _))); intro v370 w20 ho21 hb hg_ hnew_; clear hg_ hnew_; rw [← Ny369.out] at ho21; have n0_ := am (Kd.V_elder' (by (with_reducible repeat (first | apply vA | apply vN | apply vD)); exact HO0_1.out) (Kd.N_base ho21) hb); have n1_ := am (Kd.V_elder' (by (with_reducible repeat (first | apply vA | apply vN | apply vD)); exact HO0_2.out) (Kd.N_base ho21) hb); have n2_ := am (Kd.V_elder' (by (with_reducible repeat (first | apply vA | apply vN | apply vD)); exact HO0_3.out) (Kd.N_base ho21) hb); have n3_ := am (Kd.N_lower ho21 (below_size (by repeat (first | (with_reducible first | exact HB.out | apply below_alloc | apply pw_below_drewN | apply below_drew1 | refine below_set ?_ GE367.out) | exact HB.out)))); have n4_ := am (blk_below (g := gb367) (o := .cells #[.bool a0_0, .slice A0_1 l0_1.length c0_1, .slice A0_2 l0_2.length c0_2, .slice A0_3 l0_3.length c0_3] 27 (0, 0)) (by (with_reducible repeat (first | refine blk_drewN ?_ _ | refine blk_drew ?_ | refine blk_alloc ?_ _)); exact BK367.out) hb); have n5_ := am (below_step (by repeat (first | (with_reducible first | exact HB.out | apply below_alloc | apply pw_below_drewN | apply below_drew1 | refine below_set ?_ GE367.out) | exact HB.out)) hb); clear HO0_1; clear HO0_2; clear HO0_3; clear BK367; clear HB; have HO0_1 := n0_; have HO0_2 := n1_; have HO0_3 := n2_; have HO371 := n3_; have BK367 := n4_; have HB := n5_; clear n0_ n1_ n2_ n3_ n4_ n5_; clear hb ho21; obtain ⟨Ao22, co22, eo22⟩ := Kd.N_slice HO371.out; subst eo22) | (go_at_call 32; (with_reducible refine (sennitref07_Few.calls k _ _ y369 false _ ?side1 ?side2 A6.out).mono ?_); (case side1 => repeat (first | exact (Kd.N_reads' HO371.out).2.2 | (with_reducible refine Kd.C_alloc ?_ _) | (with_reducible refine Kd.C_drewN ?_ _) | (with_reducible refine Kd.C_drew ?_))); (case side2 => exact (Kd.N_reads' HO371.out).2.1); rintro e w' ⟨rfl, ⟨nd, rfl⟩⟩; (try first | exact ⟨rfl, _, World.drewN_drewN _ _ _⟩ | exact ⟨rfl, _, Eq.trans (World.drewN_drewN _ _ _) (congrArg (World.drewN _) (Nat.add_assoc _ _ _))⟩))))
   go_meet
   case rel => exact ⟨_, (true), (by first | rfl | (simp; done) | (simp [*]; done)), H', ⟨by first | omega | exact Nat.le_refl _⟩, ⟨by (with_reducible repeat (first | apply vA | apply vN | apply vD)); exact Kd.V_mono HO0_1.out (fun _ hk => ⟨hk.1.1, hk.1.2⟩)⟩, ⟨by (with_reducible repeat (first | apply vA | apply vN | apply vD)); exact Kd.V_mono HO0_2.out (fun _ hk => ⟨hk.1.1, hk.1.2⟩)⟩, ⟨by (with_reducible repeat (first | apply vA | apply vN | apply vD)); exact Kd.V_mono HO0_3.out (fun _ hk => ⟨hk.1.1, hk.1.2⟩)⟩, ⟨by (with_reducible repeat (first | refine blk_drewN ?_ _ | refine blk_drew ?_ | refine blk_alloc ?_ _)); exact BK367.out⟩, ⟨by repeat (first | (with_reducible first | exact HB.out | apply below_alloc | apply pw_below_drewN | apply below_drew1 | refine below_set ?_ GE367.out) | exact HB.out)⟩⟩
 case rest =>
  clear HC3
  (try clear c1); (try clear p2); (try clear c4); (try clear c7); (try clear c8); (try clear c12); (try clear hcz13_0); (try clear hcz13_1); (try clear hcz13_2); (try clear hcz13_3); (try clear hcz14_0); (try clear hcz14_1); (try clear hcz14_2); (try clear hcz14_3); (try clear hcz18_0); (try clear hcz18_1); (try clear hcz18_2); (try clear hcz18_3); (try clear hcz19_0); (try clear hcz19_1); (try clear hcz19_2); (try clear hcz19_3); (try clear hcz9_0); (try clear hcz9_1); (try clear hcz9_2); (try clear hcz9_3); (try clear hfz13_0); (try clear hfz13_1); (try clear hfz13_2); (try clear hfz13_3); (try clear hfz14_0); (try clear hfz14_1); (try clear hfz14_2); (try clear hfz14_3); (try clear hfz18_0); (try clear hfz18_1); (try clear hfz18_2); (try clear hfz18_3); (try clear hfz19_0); (try clear hfz19_1); (try clear hfz19_2); (try clear hfz19_3); (try clear hfz9_0); (try clear hfz9_1); (try clear hfz9_2); (try clear hfz9_3)
  obtain ⟨kq, x27_2, rfl, HA, HJ2, HO_368001, HO_368002, HO_368003, BK367, HB⟩ := hcut
  cases kq with
  | zero => exact absurd HA.out (by simp [sennitlaw10_ZealEnds.j0])
  | succ kj2 =>
   have H := HA.out
   clear HA
   simp only [sennitlaw10_ZealEnds.j0] at H
   by_cases c23 : x27_2 = true
   ·subst c23
    have H1 : (some t368) = some r := by rw [if_pos rfl] at H; exact H
    clear H
    have H := H1
    clear H1
    obtain rfl := Option.some.inj H
    go_wp2
    repeat (go_quiet (fail); try go_wp2)
    go_ret
    exact ⟨by first | rfl | (simp [errW_none, errW_some] <;> rfl) | (simp [*, errW_none, errW_some] <;> rfl), by repeat (first | (with_reducible first | exact HB.out | apply below_alloc | apply pw_below_drewN | apply below_drew1 | refine below_set ?_ GE367.out) | exact HB.out)⟩
   ·replace c23 := Bool.eq_false_iff.mpr c23
    subst c23
    have H1 : ((zeal_Trim.f kj2 a0_0 l0_1 l0_2 l0_3).bind fun t373 => (sennitlaw10_ZealEnds.l0 kj2 t368 t373 0 a0_0 l0_1 l0_2 l0_3)) = some r := by rw [if_neg (show ¬ (false = true) by decide)] at H; exact H
    clear H
    have H := H1
    clear H1
    replace H := Option.bind_eq_some_iff.mp H
    obtain ⟨t373, A240, H⟩ := H
    replace H : (sennitlaw10_ZealEnds.l0 kj2 t368 t373 0 a0_0 l0_1 l0_2 l0_3) = some r := H
    have A24 := am A240
    clear A240
    have H' := am H
    clear H
    have hcz25_0 : wc.cell? ⟨gb367, 0, none⟩ = some (.bool a0_0) := (blk_cell BK367.out 0).trans rfl
    have hcz25_1 : wc.cell? ⟨gb367, 1, none⟩ = some (.slice A0_1 l0_1.length c0_1) := (blk_cell BK367.out 1).trans rfl
    have hcz25_2 : wc.cell? ⟨gb367, 2, none⟩ = some (.slice A0_2 l0_2.length c0_2) := (blk_cell BK367.out 2).trans rfl
    have hcz25_3 : wc.cell? ⟨gb367, 3, none⟩ = some (.slice A0_3 l0_3.length c0_3) := (blk_cell BK367.out 3).trans rfl
    have hfz25_0 := blk_frozen BK367.out 0
    have hfz25_1 := blk_frozen BK367.out 1
    have hfz25_2 := blk_frozen BK367.out 2
    have hfz25_3 := blk_frozen BK367.out 3
    go_wp2_with (first | (go_at_call 36; (with_reducible refine (zeal_Trim.calls kj2 a0_0 (fun k_ => (((P0_1_ k_ ∨ P0_2_ k_ ∨ P0_3_ k_) ∨ w.heap.size ≤ k_) ∧ k_ ≠ gb367)) _ _ l0_1 (fun k_ => (((P0_1_ k_ ∨ P0_2_ k_ ∨ P0_3_ k_) ∨ w.heap.size ≤ k_) ∧ k_ ≠ gb367)) _ _ l0_2 (fun k_ => (((P0_1_ k_ ∨ P0_2_ k_ ∨ P0_3_ k_) ∨ w.heap.size ≤ k_) ∧ k_ ≠ gb367)) _ _ l0_3 t373 _ ?side1 ?side2 ?side3 A24.out).mono ?_); (case side1 => exact HO_368001.out); (case side2 => exact HO_368002.out); (case side3 => exact HO_368003.out); rintro e w26 ⟨v374, rfl, ho0, hb⟩; have n0_ := am (Kd.V_elder' (by (with_reducible repeat (first | apply vA | apply vN | apply vD)); exact HO_368001.out) (Kd.N_base ho0) hb); have n1_ := am (Kd.V_elder' (by (with_reducible repeat (first | apply vA | apply vN | apply vD)); exact HO_368002.out) (Kd.N_base ho0) hb); have n2_ := am (Kd.V_elder' (by (with_reducible repeat (first | apply vA | apply vN | apply vD)); exact HO_368003.out) (Kd.N_base ho0) hb); have n3_ := am (Kd.N_lower (Kd.N_mono (ok' := fun k_ => ((P0_1_ k_ ∨ P0_2_ k_ ∨ P0_3_ k_) ∨ w.heap.size ≤ k_) ∧ k_ ≠ gb367) ho0 (fun k_ hk_ => ⟨Or.elim hk_ (fun hs_ => Or.elim hs_ (fun hs_ => hs_.1) (fun hs_ => Or.elim hs_ (fun hs_ => hs_.1) (fun hs_ => hs_.1))) (fun hn_ => (.inr (Nat.le_trans (below_size (by repeat (first | (with_reducible first | exact HB.out | apply below_alloc | apply pw_below_drewN | apply below_drew1 | refine below_set ?_ GE367.out) | exact HB.out))) hn_))), Or.elim hk_ (fun hs_ => Or.elim hs_ (fun hs_ => hs_.2) (fun hs_ => Or.elim hs_ (fun hs_ => hs_.2) (fun hs_ => hs_.2))) (fun hn_ => (Kd.freshB (g := gb367) (o := .cells #[.bool a0_0, .slice A0_1 l0_1.length c0_1, .slice A0_2 l0_2.length c0_2, .slice A0_3 l0_3.length c0_3] 27 (0, 0)) (by (with_reducible repeat (first | refine blk_drewN ?_ _ | refine blk_drew ?_ | refine blk_alloc ?_ _)); exact BK367.out) k_ hn_))⟩)) (below_size (by repeat (first | (with_reducible first | exact HB.out | apply below_alloc | apply pw_below_drewN | apply below_drew1 | refine below_set ?_ GE367.out) | exact HB.out)))); have n4_ := am (blk_below (g := gb367) (o := .cells #[.bool a0_0, .slice A0_1 l0_1.length c0_1, .slice A0_2 l0_2.length c0_2, .slice A0_3 l0_3.length c0_3] 27 (0, 0)) (by (with_reducible repeat (first | refine blk_drewN ?_ _ | refine blk_drew ?_ | refine blk_alloc ?_ _)); exact BK367.out) hb); have n5_ := am (below_step (by repeat (first | (with_reducible first | exact HB.out | apply below_alloc | apply pw_below_drewN | apply below_drew1 | refine below_set ?_ GE367.out) | exact HB.out)) hb); clear HO_368001; clear HO_368002; clear HO_368003; clear BK367; clear HB; have HO_368001 := n0_; have HO_368002 := n1_; have HO_368003 := n2_; have HO375 := n3_; have BK367 := n4_; have HB := n5_; clear n0_ n1_ n2_ n3_ n4_ n5_; (try clear hb); (try clear hb2); (try clear hk); (try clear hi); (try clear ho0)))
    repeat (go_quiet (first | (go_at_call 36; (with_reducible refine (zeal_Trim.calls kj2 a0_0 (fun k_ => (((P0_1_ k_ ∨ P0_2_ k_ ∨ P0_3_ k_) ∨ w.heap.size ≤ k_) ∧ k_ ≠ gb367)) _ _ l0_1 (fun k_ => (((P0_1_ k_ ∨ P0_2_ k_ ∨ P0_3_ k_) ∨ w.heap.size ≤ k_) ∧ k_ ≠ gb367)) _ _ l0_2 (fun k_ => (((P0_1_ k_ ∨ P0_2_ k_ ∨ P0_3_ k_) ∨ w.heap.size ≤ k_) ∧ k_ ≠ gb367)) _ _ l0_3 t373 _ ?side1 ?side2 ?side3 A24.out).mono ?_); (case side1 => exact HO_368001.out); (case side2 => exact HO_368002.out); (case side3 => exact HO_368003.out); rintro e w26 ⟨v374, rfl, ho0, hb⟩; have n0_ := am (Kd.V_elder' (by (with_reducible repeat (first | apply vA | apply vN | apply vD)); exact HO_368001.out) (Kd.N_base ho0) hb); have n1_ := am (Kd.V_elder' (by (with_reducible repeat (first | apply vA | apply vN | apply vD)); exact HO_368002.out) (Kd.N_base ho0) hb); have n2_ := am (Kd.V_elder' (by (with_reducible repeat (first | apply vA | apply vN | apply vD)); exact HO_368003.out) (Kd.N_base ho0) hb); have n3_ := am (Kd.N_lower (Kd.N_mono (ok' := fun k_ => ((P0_1_ k_ ∨ P0_2_ k_ ∨ P0_3_ k_) ∨ w.heap.size ≤ k_) ∧ k_ ≠ gb367) ho0 (fun k_ hk_ => ⟨Or.elim hk_ (fun hs_ => Or.elim hs_ (fun hs_ => hs_.1) (fun hs_ => Or.elim hs_ (fun hs_ => hs_.1) (fun hs_ => hs_.1))) (fun hn_ => (.inr (Nat.le_trans (below_size (by repeat (first | (with_reducible first | exact HB.out | apply below_alloc | apply pw_below_drewN | apply below_drew1 | refine below_set ?_ GE367.out) | exact HB.out))) hn_))), Or.elim hk_ (fun hs_ => Or.elim hs_ (fun hs_ => hs_.2) (fun hs_ => Or.elim hs_ (fun hs_ => hs_.2) (fun hs_ => hs_.2))) (fun hn_ => (Kd.freshB (g := gb367) (o := .cells #[.bool a0_0, .slice A0_1 l0_1.length c0_1, .slice A0_2 l0_2.length c0_2, .slice A0_3 l0_3.length c0_3] 27 (0, 0)) (by (with_reducible repeat (first | refine blk_drewN ?_ _ | refine blk_drew ?_ | refine blk_alloc ?_ _)); exact BK367.out) k_ hn_))⟩)) (below_size (by repeat (first | (with_reducible first | exact HB.out | apply below_alloc | apply pw_below_drewN | apply below_drew1 | refine below_set ?_ GE367.out) | exact HB.out)))); have n4_ := am (blk_below (g := gb367) (o := .cells #[.bool a0_0, .slice A0_1 l0_1.length c0_1, .slice A0_2 l0_2.length c0_2, .slice A0_3 l0_3.length c0_3] 27 (0, 0)) (by (with_reducible repeat (first | refine blk_drewN ?_ _ | refine blk_drew ?_ | refine blk_alloc ?_ _)); exact BK367.out) hb); have n5_ := am (below_step (by repeat (first | (with_reducible first | exact HB.out | apply below_alloc | apply pw_below_drewN | apply below_drew1 | refine below_set ?_ GE367.out) | exact HB.out)) hb); clear HO_368001; clear HO_368002; clear HO_368003; clear BK367; clear HB; have HO_368001 := n0_; have HO_368002 := n1_; have HO_368003 := n2_; have HO375 := n3_; have BK367 := n4_; have HB := n5_; clear n0_ n1_ n2_ n3_ n4_ n5_; (try clear hb); (try clear hb2); (try clear hk); (try clear hi); (try clear ho0))); try go_wp2_with (first | (go_at_call 36; (with_reducible refine (zeal_Trim.calls kj2 a0_0 (fun k_ => (((P0_1_ k_ ∨ P0_2_ k_ ∨ P0_3_ k_) ∨ w.heap.size ≤ k_) ∧ k_ ≠ gb367)) _ _ l0_1 (fun k_ => (((P0_1_ k_ ∨ P0_2_ k_ ∨ P0_3_ k_) ∨ w.heap.size ≤ k_) ∧ k_ ≠ gb367)) _ _ l0_2 (fun k_ => (((P0_1_ k_ ∨ P0_2_ k_ ∨ P0_3_ k_) ∨ w.heap.size ≤ k_) ∧ k_ ≠ gb367)) _ _ l0_3 t373 _ ?side1 ?side2 ?side3 A24.out).mono ?_); (case side1 => exact HO_368001.out); (case side2 => exact HO_368002.out); (case side3 => exact HO_368003.out); rintro e w26 ⟨v374, rfl, ho0, hb⟩; have n0_ := am (Kd.V_elder' (by (with_reducible repeat (first | apply vA | apply vN | apply vD)); exact HO_368001.out) (Kd.N_base ho0) hb); have n1_ := am (Kd.V_elder' (by (with_reducible repeat (first | apply vA | apply vN | apply vD)); exact HO_368002.out) (Kd.N_base ho0) hb); have n2_ := am (Kd.V_elder' (by (with_reducible repeat (first | apply vA | apply vN | apply vD)); exact HO_368003.out) (Kd.N_base ho0) hb); have n3_ := am (Kd.N_lower (Kd.N_mono (ok' := fun k_ => ((P0_1_ k_ ∨ P0_2_ k_ ∨ P0_3_ k_) ∨ w.heap.size ≤ k_) ∧ k_ ≠ gb367) ho0 (fun k_ hk_ => ⟨Or.elim hk_ (fun hs_ => Or.elim hs_ (fun hs_ => hs_.1) (fun hs_ => Or.elim hs_ (fun hs_ => hs_.1) (fun hs_ => hs_.1))) (fun hn_ => (.inr (Nat.le_trans (below_size (by repeat (first | (with_reducible first | exact HB.out | apply below_alloc | apply pw_below_drewN | apply below_drew1 | refine below_set ?_ GE367.out) | exact HB.out))) hn_))), Or.elim hk_ (fun hs_ => Or.elim hs_ (fun hs_ => hs_.2) (fun hs_ => Or.elim hs_ (fun hs_ => hs_.2) (fun hs_ => hs_.2))) (fun hn_ => (Kd.freshB (g := gb367) (o := .cells #[.bool a0_0, .slice A0_1 l0_1.length c0_1, .slice A0_2 l0_2.length c0_2, .slice A0_3 l0_3.length c0_3] 27 (0, 0)) (by (with_reducible repeat (first | refine blk_drewN ?_ _ | refine blk_drew ?_ | refine blk_alloc ?_ _)); exact BK367.out) k_ hn_))⟩)) (below_size (by repeat (first | (with_reducible first | exact HB.out | apply below_alloc | apply pw_below_drewN | apply below_drew1 | refine below_set ?_ GE367.out) | exact HB.out)))); have n4_ := am (blk_below (g := gb367) (o := .cells #[.bool a0_0, .slice A0_1 l0_1.length c0_1, .slice A0_2 l0_2.length c0_2, .slice A0_3 l0_3.length c0_3] 27 (0, 0)) (by (with_reducible repeat (first | refine blk_drewN ?_ _ | refine blk_drew ?_ | refine blk_alloc ?_ _)); exact BK367.out) hb); have n5_ := am (below_step (by repeat (first | (with_reducible first | exact HB.out | apply below_alloc | apply pw_below_drewN | apply below_drew1 | refine below_set ?_ GE367.out) | exact HB.out)) hb); clear HO_368001; clear HO_368002; clear HO_368003; clear BK367; clear HB; have HO_368001 := n0_; have HO_368002 := n1_; have HO_368003 := n2_; have HO375 := n3_; have BK367 := n4_; have HB := n5_; clear n0_ n1_ n2_ n3_ n4_ n5_; (try clear hb); (try clear hb2); (try clear hk); (try clear hi); (try clear ho0))))
    go_loopg [5] kj2 (fun kq v5 w' => ∃ (x5_2 : Int), v5 = .int .i64 x5_2 ∧ Aside0 (sennitlaw10_ZealEnds.l0 kq t368 t373 x5_2 a0_0 l0_1 l0_2 l0_3 = some r) ∧ Aside0 (kq ≤ kj2) ∧ Aside0 (Kd.N k27 27 w' w.heap.size (fun k_ => ((P0_1_ k_ ∨ P0_2_ k_ ∨ P0_3_ k_) ∨ w.heap.size ≤ k_) ∧ k_ ≠ gb367) v374 t373) ∧ Aside0 (Kd.V Kd.string 9 w' w.heap.size (fun k_ => ((P0_1_ k_ ∨ P0_2_ k_ ∨ P0_3_ k_) ∨ w.heap.size ≤ k_) ∧ some k_ ≠ (v374 : Value).ownBlock ∧ k_ ≠ gb367) (.slice A0_1 l0_1.length c0_1) l0_1) ∧ Aside0 (Kd.V Kd.string 9 w' w.heap.size (fun k_ => ((P0_1_ k_ ∨ P0_2_ k_ ∨ P0_3_ k_) ∨ w.heap.size ≤ k_) ∧ some k_ ≠ (v374 : Value).ownBlock ∧ k_ ≠ gb367) (.slice A0_2 l0_2.length c0_2) l0_2) ∧ Aside0 (Kd.V (Kd.slice 9 Kd.string) 22 w' w.heap.size (fun k_ => ((P0_1_ k_ ∨ P0_2_ k_ ∨ P0_3_ k_) ∨ w.heap.size ≤ k_) ∧ some k_ ≠ (v374 : Value).ownBlock ∧ k_ ≠ gb367) (.slice A0_3 l0_3.length c0_3) l0_3) ∧ Aside0 (w'.heap[gb367]? = some (.cells #[.bool a0_0, (.slice A0_1 l0_1.length c0_1), (.slice A0_2 l0_2.length c0_2), (.slice A0_3 l0_3.length c0_3)] 27 (0, 0))) ∧ Aside0 (Below w.heap.size w w'))
    case atStart => exact ⟨(0), (by first | rfl | (simp; done) | (simp [*]; done)), H', ⟨Nat.le_refl _⟩, ⟨by (with_reducible repeat (first | apply nA | apply nN | apply nD)); exact HO375.out⟩, ⟨by (with_reducible repeat (first | apply vA | apply vN | apply vD)); exact Kd.V_mono HO_368001.out (fun _ hk => ⟨hk.1.1, ⟨hk.2, hk.1.2⟩⟩)⟩, ⟨by (with_reducible repeat (first | apply vA | apply vN | apply vD)); exact Kd.V_mono HO_368002.out (fun _ hk => ⟨hk.1.1, ⟨hk.2, hk.1.2⟩⟩)⟩, ⟨by (with_reducible repeat (first | apply vA | apply vN | apply vD)); exact Kd.V_mono HO_368003.out (fun _ hk => ⟨hk.1.1, ⟨hk.2, hk.1.2⟩⟩)⟩, ⟨by (with_reducible repeat (first | refine blk_drewN ?_ _ | refine blk_drew ?_ | refine blk_alloc ?_ _)); exact BK367.out⟩, ⟨by repeat (first | (with_reducible first | exact HB.out | apply below_alloc | apply pw_below_drewN | apply below_drew1 | refine below_set ?_ GE367.out) | exact HB.out)⟩⟩
    case round =>
     clear H'
     (try clear c1); (try clear c2); (try clear p2); (try clear c4); (try clear c7); (try clear c8); (try clear c12); (try clear c23); (try clear hcz13_0); (try clear hcz13_1); (try clear hcz13_2); (try clear hcz13_3); (try clear hcz14_0); (try clear hcz14_1); (try clear hcz14_2); (try clear hcz14_3); (try clear hcz18_0); (try clear hcz18_1); (try clear hcz18_2); (try clear hcz18_3); (try clear hcz19_0); (try clear hcz19_1); (try clear hcz19_2); (try clear hcz19_3); (try clear hcz25_0); (try clear hcz25_1); (try clear hcz25_2); (try clear hcz25_3); (try clear hcz9_0); (try clear hcz9_1); (try clear hcz9_2); (try clear hcz9_3); (try clear hfz13_0); (try clear hfz13_1); (try clear hfz13_2); (try clear hfz13_3); (try clear hfz14_0); (try clear hfz14_1); (try clear hfz14_2); (try clear hfz14_3); (try clear hfz18_0); (try clear hfz18_1); (try clear hfz18_2); (try clear hfz18_3); (try clear hfz19_0); (try clear hfz19_1); (try clear hfz19_2); (try clear hfz19_3); (try clear hfz25_0); (try clear hfz25_1); (try clear hfz25_2); (try clear hfz25_3); (try clear hfz9_0); (try clear hfz9_1); (try clear hfz9_2); (try clear hfz9_3); (try clear p2)
     obtain ⟨x5_2, rfl, HA, HK2, HO_4, HO_368001, HO_368002, HO_368003, BK367, HB⟩ := hrel
     cases gk with
     | zero => exact absurd HA.out (by simp [sennitlaw10_ZealEnds.l0])
     | succ k2 =>
      have H := HA.out
      clear HA
      simp only [sennitlaw10_ZealEnds.l0] at H
      by_cases c27 : x5_2 < (t373.length : Int)
      ·rw [if_pos c27] at H
       have c27b0 : decide (x5_2 < (t373.length : Int)) = true := decide_eq_true c27
       clear c27
       by_cases c28 : 0 ≤ x5_2
       ·rw [if_pos c28] at H
        have c28b0 : decide (0 ≤ x5_2) = true := decide_eq_true c28
        clear c28
        by_cases c29 : 0 ≤ (((rd_T27 t373 x5_2).f1).length : Int)
        ·rw [if_pos c29] at H
         have c29b0 := eq_true c29
         have c29b1 : decide (0 ≤ (((rd_T27 t373 x5_2).f1).length : Int)) = true := decide_eq_true c29
         clear c29
         obtain ⟨y378, hy378⟩ : ∃ y_ : List ByteArray, y_ = (((rd_T27 t373 x5_2).f1).drop 0) := ⟨_, rfl⟩
         replace H : (if 0 ≤ (((rd_T27 t373 x5_2).f2).length : Int) then ((some (((rd_T27 t373 x5_2).f2).drop 0 : List ByteArray)).bind fun y383 => (if 0 ≤ (((rd_T27 t373 x5_2).f3).length : Int) then ((some (((rd_T27 t373 x5_2).f3).drop 0 : List (List ByteArray))).bind fun y388 => (if ((rd_T27 t373 x5_2).f0 = true) then (if (y388.length : Int) = (l0_3.length : Int) then ((sennitref01_Same.f k2 y383 l0_2).bind fun t393 => (sennitlaw10_ZealEnds.j2 k2 t368 t373 x5_2 (!t393) a0_0 l0_1 l0_2 l0_3 ((rd_T27 t373 x5_2).f0) y378 y383 y388)) else (sennitlaw10_ZealEnds.j2 k2 t368 t373 x5_2 true a0_0 l0_1 l0_2 l0_3 ((rd_T27 t373 x5_2).f0) y378 y383 y388)) else (sennitlaw10_ZealEnds.l0 k2 t368 t373 (wrap64 (x5_2 + 1)) a0_0 l0_1 l0_2 l0_3))) else (none))) else (none)) = some r := by first | (rw [hy378]; with_reducible exact H) | (have H2_ := (Option.bind_some _ _).symm.trans H; rw [hy378]; with_reducible exact H2_) | (have H2_ := (Option.bind_some _ _).symm.trans H; with_reducible exact H2_) | with_reducible exact H | (rw [hy378]; exact H) | exact H
         have Ny378 := am hy378
         clear hy378
         by_cases c30 : 0 ≤ (((rd_T27 t373 x5_2).f2).length : Int)
         ·rw [if_pos c30] at H
          have c30b0 := eq_true c30
          have c30b1 : decide (0 ≤ (((rd_T27 t373 x5_2).f2).length : Int)) = true := decide_eq_true c30
          clear c30
          obtain ⟨y383, hy383⟩ : ∃ y_ : List ByteArray, y_ = (((rd_T27 t373 x5_2).f2).drop 0) := ⟨_, rfl⟩
          replace H : (if 0 ≤ (((rd_T27 t373 x5_2).f3).length : Int) then ((some (((rd_T27 t373 x5_2).f3).drop 0 : List (List ByteArray))).bind fun y388 => (if ((rd_T27 t373 x5_2).f0 = true) then (if (y388.length : Int) = (l0_3.length : Int) then ((sennitref01_Same.f k2 y383 l0_2).bind fun t393 => (sennitlaw10_ZealEnds.j2 k2 t368 t373 x5_2 (!t393) a0_0 l0_1 l0_2 l0_3 ((rd_T27 t373 x5_2).f0) y378 y383 y388)) else (sennitlaw10_ZealEnds.j2 k2 t368 t373 x5_2 true a0_0 l0_1 l0_2 l0_3 ((rd_T27 t373 x5_2).f0) y378 y383 y388)) else (sennitlaw10_ZealEnds.l0 k2 t368 t373 (wrap64 (x5_2 + 1)) a0_0 l0_1 l0_2 l0_3))) else (none)) = some r := by first | (rw [hy383]; with_reducible exact H) | (have H2_ := (Option.bind_some _ _).symm.trans H; rw [hy383]; with_reducible exact H2_) | (have H2_ := (Option.bind_some _ _).symm.trans H; with_reducible exact H2_) | with_reducible exact H | (rw [hy383]; exact H) | exact H
          have Ny383 := am hy383
          clear hy383
          by_cases c31 : 0 ≤ (((rd_T27 t373 x5_2).f3).length : Int)
          ·rw [if_pos c31] at H
           have c31b0 := eq_true c31
           have c31b1 : decide (0 ≤ (((rd_T27 t373 x5_2).f3).length : Int)) = true := decide_eq_true c31
           clear c31
           obtain ⟨y388, hy388⟩ : ∃ y_ : List (List ByteArray), y_ = (((rd_T27 t373 x5_2).f3).drop 0) := ⟨_, rfl⟩
           replace H : (if ((rd_T27 t373 x5_2).f0 = true) then (if (y388.length : Int) = (l0_3.length : Int) then ((sennitref01_Same.f k2 y383 l0_2).bind fun t393 => (sennitlaw10_ZealEnds.j2 k2 t368 t373 x5_2 (!t393) a0_0 l0_1 l0_2 l0_3 ((rd_T27 t373 x5_2).f0) y378 y383 y388)) else (sennitlaw10_ZealEnds.j2 k2 t368 t373 x5_2 true a0_0 l0_1 l0_2 l0_3 ((rd_T27 t373 x5_2).f0) y378 y383 y388)) else (sennitlaw10_ZealEnds.l0 k2 t368 t373 (wrap64 (x5_2 + 1)) a0_0 l0_1 l0_2 l0_3)) = some r := by first | (rw [hy388]; with_reducible exact H) | (have H2_ := (Option.bind_some _ _).symm.trans H; rw [hy388]; with_reducible exact H2_) | (have H2_ := (Option.bind_some _ _).symm.trans H; with_reducible exact H2_) | with_reducible exact H | (rw [hy388]; exact H) | exact H
           have Ny388 := am hy388
           clear hy388
           obtain ⟨bq32, hbq32⟩ : ∃ b_ : Bool, b_ = ((rd_T27 t373 x5_2).f0) := ⟨_, rfl⟩
           replace H : (if (bq32 = true) then (if (y388.length : Int) = (l0_3.length : Int) then ((sennitref01_Same.f k2 y383 l0_2).bind fun t393 => (sennitlaw10_ZealEnds.j2 k2 t368 t373 x5_2 (!t393) a0_0 l0_1 l0_2 l0_3 bq32 y378 y383 y388)) else (sennitlaw10_ZealEnds.j2 k2 t368 t373 x5_2 true a0_0 l0_1 l0_2 l0_3 bq32 y378 y383 y388)) else (sennitlaw10_ZealEnds.l0 k2 t368 t373 (wrap64 (x5_2 + 1)) a0_0 l0_1 l0_2 l0_3)) = some r := by rw [← hbq32] at H; exact H
           have Nbq32 := am hbq32
           clear hbq32
           by_cases c33 : (bq32 = true)
           ·subst c33
            have H1 : (if (y388.length : Int) = (l0_3.length : Int) then ((sennitref01_Same.f k2 y383 l0_2).bind fun t393 => (sennitlaw10_ZealEnds.j2 k2 t368 t373 x5_2 (!t393) a0_0 l0_1 l0_2 l0_3 true y378 y383 y388)) else (sennitlaw10_ZealEnds.j2 k2 t368 t373 x5_2 true a0_0 l0_1 l0_2 l0_3 true y378 y383 y388)) = some r := by rw [if_pos rfl] at H; exact H
            clear H
            have H := H1
            clear H1
            have HC34 := am H
            clear H
            obtain ⟨Ao35, co35, eo35⟩ := Kd.N_slice HO_4.out
            subst eo35
            have p376 : 0 ≤ (x5_2 : Int) := of_decide_eq_true (by first | (with_reducible assumption) | assumption)
            have q376 : x5_2 < (t373.length : Int) := of_decide_eq_true (by first | (with_reducible assumption) | assumption)
            obtain ⟨ad376, A376_1, c376_1, A376_2, c376_2, A376_3, c376_3, e376, hx376_0, hx376_1, hx376_2, hx376_3, hl376_1, hi376_1, hl376_2, hi376_2, hl376_3, hi376_3⟩ := at_T27 (Kd.N_reads' HO_4.out).2.2 x5_2 p376 q376
            (try rw [← Nbq32.out] at hx376_0)
            cases e376
            obtain ⟨ce376, hce376, hMe376, hcc376⟩ := Kd.N_get HO_4.out z27 x5_2 p376 (by first | exact q376 | exact of_decide_eq_true (by first | (with_reducible assumption) | assumption) | (have e_ := (Kd.N_reads' HO_4.out).1; omega))
            obtain ⟨ua376_1, uc376_1, ua376_2, uc376_2, ua376_3, uc376_3, rfl, ul376_1, ge376_1, ul376_2, ge376_2, ul376_3, ge376_3⟩ := k27_openF hMe376
            have hv376_1 := hcc376 1 _ rfl
            rw [add_field _ _ 1 (by omega)] at hv376_1
            replace hv376_1 := Option.some.inj (hv376_1.symm.trans hx376_1)
            injection hv376_1 with hva_ hvn_ hvc_
            rw [hva_] at ge376_1
            rw [hvc_] at ul376_1
            have HL376_1 := am (show Kd.V Kd.string 9 _ w.heap.size _ _ ((rd_T27 t373 x5_2).f1) from Kd.V_mk ul376_1 ge376_1)
            clear hva_ hvn_ hvc_ ge376_1 ul376_1
            have hv376_2 := hcc376 2 _ rfl
            rw [add_field _ _ 2 (by omega)] at hv376_2
            replace hv376_2 := Option.some.inj (hv376_2.symm.trans hx376_2)
            injection hv376_2 with hva_ hvn_ hvc_
            rw [hva_] at ge376_2
            rw [hvc_] at ul376_2
            have HL376_2 := am (show Kd.V Kd.string 9 _ w.heap.size _ _ ((rd_T27 t373 x5_2).f2) from Kd.V_mk ul376_2 ge376_2)
            clear hva_ hvn_ hvc_ ge376_2 ul376_2
            have hv376_3 := hcc376 3 _ rfl
            rw [add_field _ _ 3 (by omega)] at hv376_3
            replace hv376_3 := Option.some.inj (hv376_3.symm.trans hx376_3)
            injection hv376_3 with hva_ hvn_ hvc_
            rw [hva_] at ge376_3
            rw [hvc_] at ul376_3
            have HL376_3 := am (show Kd.V (Kd.slice 9 Kd.string) 22 _ w.heap.size _ _ ((rd_T27 t373 x5_2).f3) from Kd.V_mk ul376_3 ge376_3)
            clear hva_ hvn_ hvc_ ge376_3 ul376_3
            clear hcc376 hce376
            have HR376_1 := am hi376_1
            have HC376_1 := am hl376_1
            clear hi376_1 hl376_1
            have HR376_2 := am hi376_2
            have HC376_2 := am hl376_2
            clear hi376_2 hl376_2
            have HR376_3 := am hi376_3
            have HC376_3 := am hl376_3
            clear hi376_3 hl376_3
            replace p376 := eq_true p376
            replace q376 := eq_true q376
            go_upto_region 10 with (first | ((with_reducible refine gate_dst (N := 6) rfl ?_); (try (refine gate_guard (by rfl) ?_; dsimp only)); refine box_event ?hg (N := 6) ?hd (cs := #[.bool false, .slice none 0 0, .slice none 0 0, .slice none 0 0]) (t := 27) ?hr ?_; (case hd => rfl); (case hg => rfl); (case hr => first | (go_simp; done) | (go_simp; rfl)); intro gb377 hg w36 hbox hb; have n0_ := am (Kd.N_below (Kd.N_elderB (by (with_reducible repeat (first | apply nA | apply nN | apply nD)); exact HO_4.out) gb377 (Nat.le_of_eq hg.symm)) hb); have n1_ := am (Kd.V_below (Kd.V_elderB (by (with_reducible repeat (first | apply vA | apply vN | apply vD)); exact HO_368001.out) gb377 (Nat.le_of_eq hg.symm)) hb); have n2_ := am (Kd.V_below (Kd.V_elderB (by (with_reducible repeat (first | apply vA | apply vN | apply vD)); exact HO_368002.out) gb377 (Nat.le_of_eq hg.symm)) hb); have n3_ := am (Kd.V_below (Kd.V_elderB (by (with_reducible repeat (first | apply vA | apply vN | apply vD)); exact HO_368003.out) gb377 (Nat.le_of_eq hg.symm)) hb); have n4_ := am (Kd.V_below (Kd.V_elderB (by (with_reducible repeat (first | apply vA | apply vN | apply vD)); exact HL376_1.out) gb377 (Nat.le_of_eq hg.symm)) hb); have n5_ := am (Kd.V_below (Kd.V_elderB (by (with_reducible repeat (first | apply vA | apply vN | apply vD)); exact HL376_2.out) gb377 (Nat.le_of_eq hg.symm)) hb); have n6_ := am (Kd.V_below (Kd.V_elderB (by (with_reducible repeat (first | apply vA | apply vN | apply vD)); exact HL376_3.out) gb377 (Nat.le_of_eq hg.symm)) hb); have n7_ := am (blk_below (g := gb367) (o := .cells #[.bool a0_0, .slice A0_1 l0_1.length c0_1, .slice A0_2 l0_2.length c0_2, .slice A0_3 l0_3.length c0_3] 27 (0, 0)) (by (with_reducible repeat (first | refine blk_drewN ?_ _ | refine blk_drew ?_ | refine blk_alloc ?_ _)); exact BK367.out) hb); have n8_ := am (Kd.C_below (by repeat (first | (with_reducible exact HR376_1.out) | (with_reducible refine Kd.C_alloc ?_ _) | (with_reducible refine Kd.C_drewN ?_ _) | (with_reducible refine Kd.C_drew ?_) | exact HR376_1.out)) hb); have n9_ := am (Kd.C_below (by repeat (first | (with_reducible exact HR376_2.out) | (with_reducible refine Kd.C_alloc ?_ _) | (with_reducible refine Kd.C_drewN ?_ _) | (with_reducible refine Kd.C_drew ?_) | exact HR376_2.out)) hb); have n10_ := am (Kd.C_below (by repeat (first | (with_reducible exact HR376_3.out) | (with_reducible refine Kd.C_alloc ?_ _) | (with_reducible refine Kd.C_drewN ?_ _) | (with_reducible refine Kd.C_drew ?_) | exact HR376_3.out)) hb); have n11_ := am (below_step (by repeat (first | (with_reducible first | exact HB.out | apply below_alloc | apply pw_below_drewN | apply below_drew1 | refine below_set ?_ GE367.out) | exact HB.out)) hb); have n12_ := am (hbox); have n13_ := am ((by rw [hg]; exact (below_size (by repeat (first | (with_reducible first | exact HB.out | apply below_alloc | apply pw_below_drewN | apply below_drew1 | refine below_set ?_ GE367.out) | exact HB.out))) : w.heap.size ≤ gb377)); have n14_ := am ((by rw [hg]; exact (below_size (by repeat (first | (with_reducible first | exact HB.out | apply below_alloc | apply pw_below_drewN | apply below_drew1 | refine below_set ?_ GE367.out) | exact HB.out))) : w.heap.size ≤ gb377)); have n15_ := am ((by rw [hg]; exact Nat.ne_of_lt (blk_lt (g := gb367) (o := .cells #[.bool a0_0, .slice A0_1 l0_1.length c0_1, .slice A0_2 l0_2.length c0_2, .slice A0_3 l0_3.length c0_3] 27 (0, 0)) (by (with_reducible repeat (first | refine blk_drewN ?_ _ | refine blk_drew ?_ | refine blk_alloc ?_ _)); exact BK367.out)) : gb367 ≠ gb377)); have n16_ := am ((by rw [hg]; exact Nat.ne_of_gt (blk_lt (g := gb367) (o := .cells #[.bool a0_0, .slice A0_1 l0_1.length c0_1, .slice A0_2 l0_2.length c0_2, .slice A0_3 l0_3.length c0_3] 27 (0, 0)) (by (with_reducible repeat (first | refine blk_drewN ?_ _ | refine blk_drew ?_ | refine blk_alloc ?_ _)); exact BK367.out)) : gb377 ≠ gb367)); clear HO_4; clear HO_368001; clear HO_368002; clear HO_368003; clear HL376_1; clear HL376_2; clear HL376_3; clear BK367; clear HR376_1; clear HR376_2; clear HR376_3; clear HB; have HO_4 := n0_; have HO_368001 := n1_; have HO_368002 := n2_; have HO_368003 := n3_; have HL376_1 := n4_; have HL376_2 := n5_; have HL376_3 := n6_; have BK367 := n7_; have HR376_1 := n8_; have HR376_2 := n9_; have HR376_3 := n10_; have HB := n11_; have BK377 := n12_; have GW377 := n13_; have GE377 := n14_; have NB367_377 := n15_; have NB377_367 := n16_; clear n0_ n1_ n2_ n3_ n4_ n5_ n6_ n7_ n8_ n9_ n10_ n11_ n12_ n13_ n14_ n15_ n16_; clear hb hbox hg; have q37 : (0 : Int) ≤ ((((rd_T27 t373 x5_2).f1).length : Int) : Int) := of_decide_eq_true (by first | (with_reducible assumption) | assumption); obtain ⟨A37, hA37⟩ : ∃ A1x_, A1x_ = A376_1 := ⟨_, rfl⟩; obtain ⟨c37, hc37⟩ : ∃ c1x_, c1x_ = c376_1 := ⟨_, rfl⟩; have hy37 : ((rd_T27 t373 x5_2).f1) = y378 := (by rw [Ny378.out]; rfl); have hv37 : Value.slice A376_1 ((rd_T27 t373 x5_2).f1).length c376_1 = .slice A37 y378.length c37 := (by rw [hA37, hc37, hy37]); have HO382 := HL376_1; rw [hv37, hy37] at HO382; have HC382 : Aside0 (y378.length ≤ c37) := ⟨by rw [hc37, ← hy37]; exact HC376_1.out⟩; clear hA37 hc37 hy37; replace q37 := eq_true q37; have q38 : (0 : Int) ≤ ((((rd_T27 t373 x5_2).f2).length : Int) : Int) := of_decide_eq_true (by first | (with_reducible assumption) | assumption); obtain ⟨A38, hA38⟩ : ∃ A1x_, A1x_ = A376_2 := ⟨_, rfl⟩; obtain ⟨c38, hc38⟩ : ∃ c1x_, c1x_ = c376_2 := ⟨_, rfl⟩; have hy38 : ((rd_T27 t373 x5_2).f2) = y383 := (by rw [Ny383.out]; rfl); have hv38 : Value.slice A376_2 ((rd_T27 t373 x5_2).f2).length c376_2 = .slice A38 y383.length c38 := (by rw [hA38, hc38, hy38]); have HO387 := HL376_2; rw [hv38, hy38] at HO387; have HC387 : Aside0 (y383.length ≤ c38) := ⟨by rw [hc38, ← hy38]; exact HC376_2.out⟩; clear hA38 hc38 hy38; replace q38 := eq_true q38; have q39 : (0 : Int) ≤ ((((rd_T27 t373 x5_2).f3).length : Int) : Int) := of_decide_eq_true (by first | (with_reducible assumption) | assumption); obtain ⟨A39, hA39⟩ : ∃ A1x_, A1x_ = A376_3 := ⟨_, rfl⟩; obtain ⟨c39, hc39⟩ : ∃ c1x_, c1x_ = c376_3 := ⟨_, rfl⟩; have hy39 : ((rd_T27 t373 x5_2).f3) = y388 := (by rw [Ny388.out]; rfl); have hv39 : Value.slice A376_3 ((rd_T27 t373 x5_2).f3).length c376_3 = .slice A39 y388.length c39 := (by rw [hA39, hc39, hy39]); have HO392 := HL376_3; rw [hv39, hy39] at HO392; have HC392 : Aside0 (y388.length ≤ c39) := ⟨by rw [hc39, ← hy39]; exact HC376_3.out⟩; clear hA39 hc39 hy39; replace q39 := eq_true q39; have hnb40 := NB377_367.out; have hnc40 := NB367_377.out; have hcz41_0 : w36.cell? ⟨gb377, 0, none⟩ = some (.bool false) := (blk_cell BK377.out 0).trans rfl; have hcz41_1 : w36.cell? ⟨gb377, 1, none⟩ = some (.slice none 0 0) := (blk_cell BK377.out 1).trans rfl; have hcz41_2 : w36.cell? ⟨gb377, 2, none⟩ = some (.slice none 0 0) := (blk_cell BK377.out 2).trans rfl; have hcz41_3 : w36.cell? ⟨gb377, 3, none⟩ = some (.slice none 0 0) := (blk_cell BK377.out 3).trans rfl; have hfz41_0 := blk_frozen BK377.out 0; have hfz41_1 := blk_frozen BK377.out 1; have hfz41_2 := blk_frozen BK377.out 2; have hfz41_3 := blk_frozen BK377.out 3))
            repeat (go_quiet (first | ((with_reducible refine gate_dst (N := 6) rfl ?_); (try (refine gate_guard (by rfl) ?_; dsimp only)); refine box_event ?hg (N := 6) ?hd (cs := #[.bool false, .slice none 0 0, .slice none 0 0, .slice none 0 0]) (t := 27) ?hr ?_; (case hd => rfl); (case hg => rfl); (case hr => first | (go_simp; done) | (go_simp; rfl)); intro gb377 hg w36 hbox hb; have n0_ := am (Kd.N_below (Kd.N_elderB (by (with_reducible repeat (first | apply nA | apply nN | apply nD)); exact HO_4.out) gb377 (Nat.le_of_eq hg.symm)) hb); have n1_ := am (Kd.V_below (Kd.V_elderB (by (with_reducible repeat (first | apply vA | apply vN | apply vD)); exact HO_368001.out) gb377 (Nat.le_of_eq hg.symm)) hb); have n2_ := am (Kd.V_below (Kd.V_elderB (by (with_reducible repeat (first | apply vA | apply vN | apply vD)); exact HO_368002.out) gb377 (Nat.le_of_eq hg.symm)) hb); have n3_ := am (Kd.V_below (Kd.V_elderB (by (with_reducible repeat (first | apply vA | apply vN | apply vD)); exact HO_368003.out) gb377 (Nat.le_of_eq hg.symm)) hb); have n4_ := am (Kd.V_below (Kd.V_elderB (by (with_reducible repeat (first | apply vA | apply vN | apply vD)); exact HL376_1.out) gb377 (Nat.le_of_eq hg.symm)) hb); have n5_ := am (Kd.V_below (Kd.V_elderB (by (with_reducible repeat (first | apply vA | apply vN | apply vD)); exact HL376_2.out) gb377 (Nat.le_of_eq hg.symm)) hb); have n6_ := am (Kd.V_below (Kd.V_elderB (by (with_reducible repeat (first | apply vA | apply vN | apply vD)); exact HL376_3.out) gb377 (Nat.le_of_eq hg.symm)) hb); have n7_ := am (blk_below (g := gb367) (o := .cells #[.bool a0_0, .slice A0_1 l0_1.length c0_1, .slice A0_2 l0_2.length c0_2, .slice A0_3 l0_3.length c0_3] 27 (0, 0)) (by (with_reducible repeat (first | refine blk_drewN ?_ _ | refine blk_drew ?_ | refine blk_alloc ?_ _)); exact BK367.out) hb); have n8_ := am (Kd.C_below (by repeat (first | (with_reducible exact HR376_1.out) | (with_reducible refine Kd.C_alloc ?_ _) | (with_reducible refine Kd.C_drewN ?_ _) | (with_reducible refine Kd.C_drew ?_) | exact HR376_1.out)) hb); have n9_ := am (Kd.C_below (by repeat (first | (with_reducible exact HR376_2.out) | (with_reducible refine Kd.C_alloc ?_ _) | (with_reducible refine Kd.C_drewN ?_ _) | (with_reducible refine Kd.C_drew ?_) | exact HR376_2.out)) hb); have n10_ := am (Kd.C_below (by repeat (first | (with_reducible exact HR376_3.out) | (with_reducible refine Kd.C_alloc ?_ _) | (with_reducible refine Kd.C_drewN ?_ _) | (with_reducible refine Kd.C_drew ?_) | exact HR376_3.out)) hb); have n11_ := am (below_step (by repeat (first | (with_reducible first | exact HB.out | apply below_alloc | apply pw_below_drewN | apply below_drew1 | refine below_set ?_ GE367.out) | exact HB.out)) hb); have n12_ := am (hbox); have n13_ := am ((by rw [hg]; exact (below_size (by repeat (first | (with_reducible first | exact HB.out | apply below_alloc | apply pw_below_drewN | apply below_drew1 | refine below_set ?_ GE367.out) | exact HB.out))) : w.heap.size ≤ gb377)); have n14_ := am ((by rw [hg]; exact (below_size (by repeat (first | (with_reducible first | exact HB.out | apply below_alloc | apply pw_below_drewN | apply below_drew1 | refine below_set ?_ GE367.out) | exact HB.out))) : w.heap.size ≤ gb377)); have n15_ := am ((by rw [hg]; exact Nat.ne_of_lt (blk_lt (g := gb367) (o := .cells #[.bool a0_0, .slice A0_1 l0_1.length c0_1, .slice A0_2 l0_2.length c0_2, .slice A0_3 l0_3.length c0_3] 27 (0, 0)) (by (with_reducible repeat (first | refine blk_drewN ?_ _ | refine blk_drew ?_ | refine blk_alloc ?_ _)); exact BK367.out)) : gb367 ≠ gb377)); have n16_ := am ((by rw [hg]; exact Nat.ne_of_gt (blk_lt (g := gb367) (o := .cells #[.bool a0_0, .slice A0_1 l0_1.length c0_1, .slice A0_2 l0_2.length c0_2, .slice A0_3 l0_3.length c0_3] 27 (0, 0)) (by (with_reducible repeat (first | refine blk_drewN ?_ _ | refine blk_drew ?_ | refine blk_alloc ?_ _)); exact BK367.out)) : gb377 ≠ gb367)); clear HO_4; clear HO_368001; clear HO_368002; clear HO_368003; clear HL376_1; clear HL376_2; clear HL376_3; clear BK367; clear HR376_1; clear HR376_2; clear HR376_3; clear HB; have HO_4 := n0_; have HO_368001 := n1_; have HO_368002 := n2_; have HO_368003 := n3_; have HL376_1 := n4_; have HL376_2 := n5_; have HL376_3 := n6_; have BK367 := n7_; have HR376_1 := n8_; have HR376_2 := n9_; have HR376_3 := n10_; have HB := n11_; have BK377 := n12_; have GW377 := n13_; have GE377 := n14_; have NB367_377 := n15_; have NB377_367 := n16_; clear n0_ n1_ n2_ n3_ n4_ n5_ n6_ n7_ n8_ n9_ n10_ n11_ n12_ n13_ n14_ n15_ n16_; clear hb hbox hg; have q37 : (0 : Int) ≤ ((((rd_T27 t373 x5_2).f1).length : Int) : Int) := of_decide_eq_true (by first | (with_reducible assumption) | assumption); obtain ⟨A37, hA37⟩ : ∃ A1x_, A1x_ = A376_1 := ⟨_, rfl⟩; obtain ⟨c37, hc37⟩ : ∃ c1x_, c1x_ = c376_1 := ⟨_, rfl⟩; have hy37 : ((rd_T27 t373 x5_2).f1) = y378 := (by rw [Ny378.out]; rfl); have hv37 : Value.slice A376_1 ((rd_T27 t373 x5_2).f1).length c376_1 = .slice A37 y378.length c37 := (by rw [hA37, hc37, hy37]); have HO382 := HL376_1; rw [hv37, hy37] at HO382; have HC382 : Aside0 (y378.length ≤ c37) := ⟨by rw [hc37, ← hy37]; exact HC376_1.out⟩; clear hA37 hc37 hy37; replace q37 := eq_true q37; have q38 : (0 : Int) ≤ ((((rd_T27 t373 x5_2).f2).length : Int) : Int) := of_decide_eq_true (by first | (with_reducible assumption) | assumption); obtain ⟨A38, hA38⟩ : ∃ A1x_, A1x_ = A376_2 := ⟨_, rfl⟩; obtain ⟨c38, hc38⟩ : ∃ c1x_, c1x_ = c376_2 := ⟨_, rfl⟩; have hy38 : ((rd_T27 t373 x5_2).f2) = y383 := (by rw [Ny383.out]; rfl); have hv38 : Value.slice A376_2 ((rd_T27 t373 x5_2).f2).length c376_2 = .slice A38 y383.length c38 := (by rw [hA38, hc38, hy38]); have HO387 := HL376_2; rw [hv38, hy38] at HO387; have HC387 : Aside0 (y383.length ≤ c38) := ⟨by rw [hc38, ← hy38]; exact HC376_2.out⟩; clear hA38 hc38 hy38; replace q38 := eq_true q38; have q39 : (0 : Int) ≤ ((((rd_T27 t373 x5_2).f3).length : Int) : Int) := of_decide_eq_true (by first | (with_reducible assumption) | assumption); obtain ⟨A39, hA39⟩ : ∃ A1x_, A1x_ = A376_3 := ⟨_, rfl⟩; obtain ⟨c39, hc39⟩ : ∃ c1x_, c1x_ = c376_3 := ⟨_, rfl⟩; have hy39 : ((rd_T27 t373 x5_2).f3) = y388 := (by rw [Ny388.out]; rfl); have hv39 : Value.slice A376_3 ((rd_T27 t373 x5_2).f3).length c376_3 = .slice A39 y388.length c39 := (by rw [hA39, hc39, hy39]); have HO392 := HL376_3; rw [hv39, hy39] at HO392; have HC392 : Aside0 (y388.length ≤ c39) := ⟨by rw [hc39, ← hy39]; exact HC376_3.out⟩; clear hA39 hc39 hy39; replace q39 := eq_true q39; have hnb40 := NB377_367.out; have hnc40 := NB367_377.out; have hcz41_0 : w36.cell? ⟨gb377, 0, none⟩ = some (.bool false) := (blk_cell BK377.out 0).trans rfl; have hcz41_1 : w36.cell? ⟨gb377, 1, none⟩ = some (.slice none 0 0) := (blk_cell BK377.out 1).trans rfl; have hcz41_2 : w36.cell? ⟨gb377, 2, none⟩ = some (.slice none 0 0) := (blk_cell BK377.out 2).trans rfl; have hcz41_3 : w36.cell? ⟨gb377, 3, none⟩ = some (.slice none 0 0) := (blk_cell BK377.out 3).trans rfl; have hfz41_0 := blk_frozen BK377.out 0; have hfz41_1 := blk_frozen BK377.out 1; have hfz41_2 := blk_frozen BK377.out 2; have hfz41_3 := blk_frozen BK377.out 3)); go_upto_region 10 with (first | ((with_reducible refine gate_dst (N := 6) rfl ?_); (try (refine gate_guard (by rfl) ?_; dsimp only)); refine box_event ?hg (N := 6) ?hd (cs := #[.bool false, .slice none 0 0, .slice none 0 0, .slice none 0 0]) (t := 27) ?hr ?_; (case hd => rfl); (case hg => rfl); (case hr => first | (go_simp; done) | (go_simp; rfl)); intro gb377 hg w36 hbox hb; have n0_ := am (Kd.N_below (Kd.N_elderB (by (with_reducible repeat (first | apply nA | apply nN | apply nD)); exact HO_4.out) gb377 (Nat.le_of_eq hg.symm)) hb); have n1_ := am (Kd.V_below (Kd.V_elderB (by (with_reducible repeat (first | apply vA | apply vN | apply vD)); exact HO_368001.out) gb377 (Nat.le_of_eq hg.symm)) hb); have n2_ := am (Kd.V_below (Kd.V_elderB (by (with_reducible repeat (first | apply vA | apply vN | apply vD)); exact HO_368002.out) gb377 (Nat.le_of_eq hg.symm)) hb); have n3_ := am (Kd.V_below (Kd.V_elderB (by (with_reducible repeat (first | apply vA | apply vN | apply vD)); exact HO_368003.out) gb377 (Nat.le_of_eq hg.symm)) hb); have n4_ := am (Kd.V_below (Kd.V_elderB (by (with_reducible repeat (first | apply vA | apply vN | apply vD)); exact HL376_1.out) gb377 (Nat.le_of_eq hg.symm)) hb); have n5_ := am (Kd.V_below (Kd.V_elderB (by (with_reducible repeat (first | apply vA | apply vN | apply vD)); exact HL376_2.out) gb377 (Nat.le_of_eq hg.symm)) hb); have n6_ := am (Kd.V_below (Kd.V_elderB (by (with_reducible repeat (first | apply vA | apply vN | apply vD)); exact HL376_3.out) gb377 (Nat.le_of_eq hg.symm)) hb); have n7_ := am (blk_below (g := gb367) (o := .cells #[.bool a0_0, .slice A0_1 l0_1.length c0_1, .slice A0_2 l0_2.length c0_2, .slice A0_3 l0_3.length c0_3] 27 (0, 0)) (by (with_reducible repeat (first | refine blk_drewN ?_ _ | refine blk_drew ?_ | refine blk_alloc ?_ _)); exact BK367.out) hb); have n8_ := am (Kd.C_below (by repeat (first | (with_reducible exact HR376_1.out) | (with_reducible refine Kd.C_alloc ?_ _) | (with_reducible refine Kd.C_drewN ?_ _) | (with_reducible refine Kd.C_drew ?_) | exact HR376_1.out)) hb); have n9_ := am (Kd.C_below (by repeat (first | (with_reducible exact HR376_2.out) | (with_reducible refine Kd.C_alloc ?_ _) | (with_reducible refine Kd.C_drewN ?_ _) | (with_reducible refine Kd.C_drew ?_) | exact HR376_2.out)) hb); have n10_ := am (Kd.C_below (by repeat (first | (with_reducible exact HR376_3.out) | (with_reducible refine Kd.C_alloc ?_ _) | (with_reducible refine Kd.C_drewN ?_ _) | (with_reducible refine Kd.C_drew ?_) | exact HR376_3.out)) hb); have n11_ := am (below_step (by repeat (first | (with_reducible first | exact HB.out | apply below_alloc | apply pw_below_drewN | apply below_drew1 | refine below_set ?_ GE367.out) | exact HB.out)) hb); have n12_ := am (hbox); have n13_ := am ((by rw [hg]; exact (below_size (by repeat (first | (with_reducible first | exact HB.out | apply below_alloc | apply pw_below_drewN | apply below_drew1 | refine below_set ?_ GE367.out) | exact HB.out))) : w.heap.size ≤ gb377)); have n14_ := am ((by rw [hg]; exact (below_size (by repeat (first | (with_reducible first | exact HB.out | apply below_alloc | apply pw_below_drewN | apply below_drew1 | refine below_set ?_ GE367.out) | exact HB.out))) : w.heap.size ≤ gb377)); have n15_ := am ((by rw [hg]; exact Nat.ne_of_lt (blk_lt (g := gb367) (o := .cells #[.bool a0_0, .slice A0_1 l0_1.length c0_1, .slice A0_2 l0_2.length c0_2, .slice A0_3 l0_3.length c0_3] 27 (0, 0)) (by (with_reducible repeat (first | refine blk_drewN ?_ _ | refine blk_drew ?_ | refine blk_alloc ?_ _)); exact BK367.out)) : gb367 ≠ gb377)); have n16_ := am ((by rw [hg]; exact Nat.ne_of_gt (blk_lt (g := gb367) (o := .cells #[.bool a0_0, .slice A0_1 l0_1.length c0_1, .slice A0_2 l0_2.length c0_2, .slice A0_3 l0_3.length c0_3] 27 (0, 0)) (by (with_reducible repeat (first | refine blk_drewN ?_ _ | refine blk_drew ?_ | refine blk_alloc ?_ _)); exact BK367.out)) : gb377 ≠ gb367)); clear HO_4; clear HO_368001; clear HO_368002; clear HO_368003; clear HL376_1; clear HL376_2; clear HL376_3; clear BK367; clear HR376_1; clear HR376_2; clear HR376_3; clear HB; have HO_4 := n0_; have HO_368001 := n1_; have HO_368002 := n2_; have HO_368003 := n3_; have HL376_1 := n4_; have HL376_2 := n5_; have HL376_3 := n6_; have BK367 := n7_; have HR376_1 := n8_; have HR376_2 := n9_; have HR376_3 := n10_; have HB := n11_; have BK377 := n12_; have GW377 := n13_; have GE377 := n14_; have NB367_377 := n15_; have NB377_367 := n16_; clear n0_ n1_ n2_ n3_ n4_ n5_ n6_ n7_ n8_ n9_ n10_ n11_ n12_ n13_ n14_ n15_ n16_; clear hb hbox hg; have q37 : (0 : Int) ≤ ((((rd_T27 t373 x5_2).f1).length : Int) : Int) := of_decide_eq_true (by first | (with_reducible assumption) | assumption); obtain ⟨A37, hA37⟩ : ∃ A1x_, A1x_ = A376_1 := ⟨_, rfl⟩; obtain ⟨c37, hc37⟩ : ∃ c1x_, c1x_ = c376_1 := ⟨_, rfl⟩; have hy37 : ((rd_T27 t373 x5_2).f1) = y378 := (by rw [Ny378.out]; rfl); have hv37 : Value.slice A376_1 ((rd_T27 t373 x5_2).f1).length c376_1 = .slice A37 y378.length c37 := (by rw [hA37, hc37, hy37]); have HO382 := HL376_1; rw [hv37, hy37] at HO382; have HC382 : Aside0 (y378.length ≤ c37) := ⟨by rw [hc37, ← hy37]; exact HC376_1.out⟩; clear hA37 hc37 hy37; replace q37 := eq_true q37; have q38 : (0 : Int) ≤ ((((rd_T27 t373 x5_2).f2).length : Int) : Int) := of_decide_eq_true (by first | (with_reducible assumption) | assumption); obtain ⟨A38, hA38⟩ : ∃ A1x_, A1x_ = A376_2 := ⟨_, rfl⟩; obtain ⟨c38, hc38⟩ : ∃ c1x_, c1x_ = c376_2 := ⟨_, rfl⟩; have hy38 : ((rd_T27 t373 x5_2).f2) = y383 := (by rw [Ny383.out]; rfl); have hv38 : Value.slice A376_2 ((rd_T27 t373 x5_2).f2).length c376_2 = .slice A38 y383.length c38 := (by rw [hA38, hc38, hy38]); have HO387 := HL376_2; rw [hv38, hy38] at HO387; have HC387 : Aside0 (y383.length ≤ c38) := ⟨by rw [hc38, ← hy38]; exact HC376_2.out⟩; clear hA38 hc38 hy38; replace q38 := eq_true q38; have q39 : (0 : Int) ≤ ((((rd_T27 t373 x5_2).f3).length : Int) : Int) := of_decide_eq_true (by first | (with_reducible assumption) | assumption); obtain ⟨A39, hA39⟩ : ∃ A1x_, A1x_ = A376_3 := ⟨_, rfl⟩; obtain ⟨c39, hc39⟩ : ∃ c1x_, c1x_ = c376_3 := ⟨_, rfl⟩; have hy39 : ((rd_T27 t373 x5_2).f3) = y388 := (by rw [Ny388.out]; rfl); have hv39 : Value.slice A376_3 ((rd_T27 t373 x5_2).f3).length c376_3 = .slice A39 y388.length c39 := (by rw [hA39, hc39, hy39]); have HO392 := HL376_3; rw [hv39, hy39] at HO392; have HC392 : Aside0 (y388.length ≤ c39) := ⟨by rw [hc39, ← hy39]; exact HC376_3.out⟩; clear hA39 hc39 hy39; replace q39 := eq_true q39; have hnb40 := NB377_367.out; have hnc40 := NB367_377.out; have hcz41_0 : w36.cell? ⟨gb377, 0, none⟩ = some (.bool false) := (blk_cell BK377.out 0).trans rfl; have hcz41_1 : w36.cell? ⟨gb377, 1, none⟩ = some (.slice none 0 0) := (blk_cell BK377.out 1).trans rfl; have hcz41_2 : w36.cell? ⟨gb377, 2, none⟩ = some (.slice none 0 0) := (blk_cell BK377.out 2).trans rfl; have hcz41_3 : w36.cell? ⟨gb377, 3, none⟩ = some (.slice none 0 0) := (blk_cell BK377.out 3).trans rfl; have hfz41_0 := blk_frozen BK377.out 0; have hfz41_1 := blk_frozen BK377.out 1; have hfz41_2 := blk_frozen BK377.out 2; have hfz41_3 := blk_frozen BK377.out 3)))
            (try simp only [Act.put, List.setIfInBounds_toArray, List.set_cons_zero, List.set_cons_succ])
            go_cut [58] (fun v58 wc => ∃ (kq : Nat) (x58_33 : Bool), v58 = .bool x58_33 ∧ Aside0 (sennitlaw10_ZealEnds.j2 kq t368 t373 x5_2 x58_33 a0_0 l0_1 l0_2 l0_3 true y378 y383 y388 = some r) ∧ Aside0 (kq ≤ k2) ∧ Aside0 (Kd.N k27 27 wc w.heap.size (fun k_ => ((P0_1_ k_ ∨ P0_2_ k_ ∨ P0_3_ k_) ∨ w.heap.size ≤ k_) ∧ k_ ≠ gb367 ∧ k_ ≠ gb377) (.slice (some ad376) t373.length co35) t373) ∧ Aside0 (Kd.V Kd.string 9 wc w.heap.size (fun k_ => ((P0_1_ k_ ∨ P0_2_ k_ ∨ P0_3_ k_) ∨ w.heap.size ≤ k_) ∧ some k_ ≠ ((.slice (some ad376) t373.length co35) : Value).ownBlock ∧ k_ ≠ gb367 ∧ k_ ≠ gb377) (.slice A0_1 l0_1.length c0_1) l0_1) ∧ Aside0 (Kd.V Kd.string 9 wc w.heap.size (fun k_ => ((P0_1_ k_ ∨ P0_2_ k_ ∨ P0_3_ k_) ∨ w.heap.size ≤ k_) ∧ some k_ ≠ ((.slice (some ad376) t373.length co35) : Value).ownBlock ∧ k_ ≠ gb367 ∧ k_ ≠ gb377) (.slice A0_2 l0_2.length c0_2) l0_2) ∧ Aside0 (Kd.V (Kd.slice 9 Kd.string) 22 wc w.heap.size (fun k_ => ((P0_1_ k_ ∨ P0_2_ k_ ∨ P0_3_ k_) ∨ w.heap.size ≤ k_) ∧ some k_ ≠ ((.slice (some ad376) t373.length co35) : Value).ownBlock ∧ k_ ≠ gb367 ∧ k_ ≠ gb377) (.slice A0_3 l0_3.length c0_3) l0_3) ∧ Aside0 (Kd.V Kd.string 9 wc w.heap.size (fun k_ => ((P0_1_ k_ ∨ P0_2_ k_ ∨ P0_3_ k_) ∨ w.heap.size ≤ k_) ∧ some k_ ≠ ((.slice (some ad376) t373.length co35) : Value).ownBlock ∧ k_ ≠ gb367 ∧ k_ ≠ gb377) (.slice A37 y378.length c37) y378) ∧ Aside0 (Kd.V Kd.string 9 wc w.heap.size (fun k_ => ((P0_1_ k_ ∨ P0_2_ k_ ∨ P0_3_ k_) ∨ w.heap.size ≤ k_) ∧ some k_ ≠ ((.slice (some ad376) t373.length co35) : Value).ownBlock ∧ k_ ≠ gb367 ∧ k_ ≠ gb377) (.slice A38 y383.length c38) y383) ∧ Aside0 (Kd.V (Kd.slice 9 Kd.string) 22 wc w.heap.size (fun k_ => ((P0_1_ k_ ∨ P0_2_ k_ ∨ P0_3_ k_) ∨ w.heap.size ≤ k_) ∧ some k_ ≠ ((.slice (some ad376) t373.length co35) : Value).ownBlock ∧ k_ ≠ gb367 ∧ k_ ≠ gb377) (.slice A39 y388.length c39) y388) ∧ Aside0 (wc.heap[gb367]? = some (.cells #[.bool a0_0, (.slice A0_1 l0_1.length c0_1), (.slice A0_2 l0_2.length c0_2), (.slice A0_3 l0_3.length c0_3)] 27 (0, 0))) ∧ Aside0 (wc.heap[gb377]? = some (.cells #[.bool true, (.slice A37 y378.length c37), (.slice A38 y383.length c38), (.slice A39 y388.length c39)] 27 (0, 0))) ∧ Aside0 (Kd.C Kd.string wc A376_1 ((rd_T27 t373 x5_2).f1).length ((rd_T27 t373 x5_2).f1)) ∧ Aside0 (Kd.C Kd.string wc A376_2 ((rd_T27 t373 x5_2).f2).length ((rd_T27 t373 x5_2).f2)) ∧ Aside0 (Kd.C (Kd.slice 9 Kd.string) wc A376_3 ((rd_T27 t373 x5_2).f3).length ((rd_T27 t373 x5_2).f3)) ∧ Aside0 (Below w.heap.size w wc))
            case first =>
             have H := HC34.out
             clear HC34
             by_cases c42 : (y388.length : Int) = (l0_3.length : Int)
             ·rw [if_pos c42] at H
              have c42b0 : ((y388.length : Int) == (l0_3.length : Int)) = true := beq_iff_eq.mpr c42
              have c42b1 : ((y388.length : Int) != (l0_3.length : Int)) = false := bne_eq_false_iff_eq.mpr c42
              have c42b2 : (y388.length == l0_3.length) = true := by first | simpa using c42 | (simp at c42 ⊢; omega)
              clear c42
              (first | rw [c42b0] | (simp only [i64_w, i32_w]; rw [c42b0]) | skip)
              replace H := Option.bind_eq_some_iff.mp H
              obtain ⟨t393, A430, H⟩ := H
              replace H : (sennitlaw10_ZealEnds.j2 k2 t368 t373 x5_2 (!t393) a0_0 l0_1 l0_2 l0_3 true y378 y383 y388) = some r := H
              have A43 := am A430
              clear A430
              have H' := am H
              clear H
              have hnb44 := NB377_367.out
              have hnc44 := NB367_377.out
              have hcz45_0 : w36.cell? ⟨gb377, 0, none⟩ = some (.bool false) := (blk_cell BK377.out 0).trans rfl
              have hcz45_1 : w36.cell? ⟨gb377, 1, none⟩ = some (.slice none 0 0) := (blk_cell BK377.out 1).trans rfl
              have hcz45_2 : w36.cell? ⟨gb377, 2, none⟩ = some (.slice none 0 0) := (blk_cell BK377.out 2).trans rfl
              have hcz45_3 : w36.cell? ⟨gb377, 3, none⟩ = some (.slice none 0 0) := (blk_cell BK377.out 3).trans rfl
              have hfz45_0 := blk_frozen BK377.out 0
              have hfz45_1 := blk_frozen BK377.out 1
              have hfz45_2 := blk_frozen BK377.out 2
              have hfz45_3 := blk_frozen BK377.out 3
              have hcz46_0 : w36.cell? ⟨gb367, 0, none⟩ = some (.bool a0_0) := (blk_cell BK367.out 0).trans rfl
              have hcz46_1 : w36.cell? ⟨gb367, 1, none⟩ = some (.slice A0_1 l0_1.length c0_1) := (blk_cell BK367.out 1).trans rfl
              have hcz46_2 : w36.cell? ⟨gb367, 2, none⟩ = some (.slice A0_2 l0_2.length c0_2) := (blk_cell BK367.out 2).trans rfl
              have hcz46_3 : w36.cell? ⟨gb367, 3, none⟩ = some (.slice A0_3 l0_3.length c0_3) := (blk_cell BK367.out 3).trans rfl
              have hfz46_0 := blk_frozen BK367.out 0
              have hfz46_1 := blk_frozen BK367.out 1
              have hfz46_2 := blk_frozen BK367.out 2
              have hfz46_3 := blk_frozen BK367.out 3
              go_wp2_with (first | (go_at_call 24; (with_reducible refine (sennitref01_Same.calls k2 _ _ y383 _ _ l0_2 t393 _ ?side1 ?side2 ?side3 ?side4 A43.out).mono ?_); (case side1 => refine (Kd.V_reads' (e := 9) (base := w.heap.size) (ok := fun k_ => (((((P0_1_ k_ ∨ P0_2_ k_ ∨ P0_3_ k_) ∨ w.heap.size ≤ k_) ∧ k_ ≠ gb367) ∧ some k_ ≠ (.slice (some ad376) t373.length co35 : Value).ownBlock) ∧ k_ ≠ gb377)) (n := y383.length) (c := c38) ?_).2.2; exact (by (with_reducible repeat (first | apply vA | apply vN | apply vD)); exact (Kd.V_mono (Kd.V_far (p := ⟨gb377, 3, none⟩) (Kd.V_far (p := ⟨gb377, 2, none⟩) (Kd.V_far (p := ⟨gb377, 1, none⟩) (Kd.V_far (p := ⟨gb377, 0, none⟩) (Kd.V_mono HO387.out (fun k_ hk => (⟨hk, hk.2⟩ : _ ∧ k_ ≠ gb377))) (fun _ hk => hk.2) (.bool true)) (fun _ hk => hk.2) (.slice A37 y378.length c37)) (fun _ hk => hk.2) (.slice A38 y383.length c38)) (fun _ hk => hk.2) (.slice A39 y388.length c39)) (fun _ h_ => h_.1)))); (case side2 => exact (Kd.V_reads' HO387.out).2.1); (case side3 => refine (Kd.V_reads' (e := 9) (base := w.heap.size) (ok := fun k_ => ((((P0_1_ k_ ∨ P0_2_ k_ ∨ P0_3_ k_) ∨ w.heap.size ≤ k_) ∧ (some k_ ≠ (.slice (some ad376) t373.length co35 : Value).ownBlock ∧ k_ ≠ gb367)) ∧ k_ ≠ gb377)) (n := l0_2.length) (c := c0_2) ?_).2.2; exact (by (with_reducible repeat (first | apply vA | apply vN | apply vD)); exact (Kd.V_mono (Kd.V_far (p := ⟨gb377, 3, none⟩) (Kd.V_far (p := ⟨gb377, 2, none⟩) (Kd.V_far (p := ⟨gb377, 1, none⟩) (Kd.V_far (p := ⟨gb377, 0, none⟩) (Kd.V_mono HO_368002.out (fun k_ hk => (⟨hk, hk.2⟩ : _ ∧ k_ ≠ gb377))) (fun _ hk => hk.2) (.bool true)) (fun _ hk => hk.2) (.slice A37 y378.length c37)) (fun _ hk => hk.2) (.slice A38 y383.length c38)) (fun _ hk => hk.2) (.slice A39 y388.length c39)) (fun _ h_ => h_.1)))); (case side4 => exact (Kd.V_reads' HO_368002.out).2.1); rintro e w' ⟨rfl, ⟨nd, rfl⟩⟩; (try first | exact ⟨rfl, _, World.drewN_drewN _ _ _⟩ | exact ⟨rfl, _, Eq.trans (World.drewN_drewN _ _ _) (congrArg (World.drewN _) (Nat.add_assoc _ _ _))⟩)))
              repeat (go_quiet (first | (go_at_call 24; (with_reducible refine (sennitref01_Same.calls k2 _ _ y383 _ _ l0_2 t393 _ ?side1 ?side2 ?side3 ?side4 A43.out).mono ?_); (case side1 => refine (Kd.V_reads' (e := 9) (base := w.heap.size) (ok := fun k_ => (((((P0_1_ k_ ∨ P0_2_ k_ ∨ P0_3_ k_) ∨ w.heap.size ≤ k_) ∧ k_ ≠ gb367) ∧ some k_ ≠ (.slice (some ad376) t373.length co35 : Value).ownBlock) ∧ k_ ≠ gb377)) (n := y383.length) (c := c38) ?_).2.2; exact (by (with_reducible repeat (first | apply vA | apply vN | apply vD)); exact (Kd.V_mono (Kd.V_far (p := ⟨gb377, 3, none⟩) (Kd.V_far (p := ⟨gb377, 2, none⟩) (Kd.V_far (p := ⟨gb377, 1, none⟩) (Kd.V_far (p := ⟨gb377, 0, none⟩) (Kd.V_mono HO387.out (fun k_ hk => (⟨hk, hk.2⟩ : _ ∧ k_ ≠ gb377))) (fun _ hk => hk.2) (.bool true)) (fun _ hk => hk.2) (.slice A37 y378.length c37)) (fun _ hk => hk.2) (.slice A38 y383.length c38)) (fun _ hk => hk.2) (.slice A39 y388.length c39)) (fun _ h_ => h_.1)))); (case side2 => exact (Kd.V_reads' HO387.out).2.1); (case side3 => refine (Kd.V_reads' (e := 9) (base := w.heap.size) (ok := fun k_ => ((((P0_1_ k_ ∨ P0_2_ k_ ∨ P0_3_ k_) ∨ w.heap.size ≤ k_) ∧ (some k_ ≠ (.slice (some ad376) t373.length co35 : Value).ownBlock ∧ k_ ≠ gb367)) ∧ k_ ≠ gb377)) (n := l0_2.length) (c := c0_2) ?_).2.2; exact (by (with_reducible repeat (first | apply vA | apply vN | apply vD)); exact (Kd.V_mono (Kd.V_far (p := ⟨gb377, 3, none⟩) (Kd.V_far (p := ⟨gb377, 2, none⟩) (Kd.V_far (p := ⟨gb377, 1, none⟩) (Kd.V_far (p := ⟨gb377, 0, none⟩) (Kd.V_mono HO_368002.out (fun k_ hk => (⟨hk, hk.2⟩ : _ ∧ k_ ≠ gb377))) (fun _ hk => hk.2) (.bool true)) (fun _ hk => hk.2) (.slice A37 y378.length c37)) (fun _ hk => hk.2) (.slice A38 y383.length c38)) (fun _ hk => hk.2) (.slice A39 y388.length c39)) (fun _ h_ => h_.1)))); (case side4 => exact (Kd.V_reads' HO_368002.out).2.1); rintro e w' ⟨rfl, ⟨nd, rfl⟩⟩; (try first | exact ⟨rfl, _, World.drewN_drewN _ _ _⟩ | exact ⟨rfl, _, Eq.trans (World.drewN_drewN _ _ _) (congrArg (World.drewN _) (Nat.add_assoc _ _ _))⟩))); try go_wp2_with (first | (go_at_call 24; (with_reducible refine (sennitref01_Same.calls k2 _ _ y383 _ _ l0_2 t393 _ ?side1 ?side2 ?side3 ?side4 A43.out).mono ?_); (case side1 => refine (Kd.V_reads' (e := 9) (base := w.heap.size) (ok := fun k_ => (((((P0_1_ k_ ∨ P0_2_ k_ ∨ P0_3_ k_) ∨ w.heap.size ≤ k_) ∧ k_ ≠ gb367) ∧ some k_ ≠ (.slice (some ad376) t373.length co35 : Value).ownBlock) ∧ k_ ≠ gb377)) (n := y383.length) (c := c38) ?_).2.2; exact (by (with_reducible repeat (first | apply vA | apply vN | apply vD)); exact (Kd.V_mono (Kd.V_far (p := ⟨gb377, 3, none⟩) (Kd.V_far (p := ⟨gb377, 2, none⟩) (Kd.V_far (p := ⟨gb377, 1, none⟩) (Kd.V_far (p := ⟨gb377, 0, none⟩) (Kd.V_mono HO387.out (fun k_ hk => (⟨hk, hk.2⟩ : _ ∧ k_ ≠ gb377))) (fun _ hk => hk.2) (.bool true)) (fun _ hk => hk.2) (.slice A37 y378.length c37)) (fun _ hk => hk.2) (.slice A38 y383.length c38)) (fun _ hk => hk.2) (.slice A39 y388.length c39)) (fun _ h_ => h_.1)))); (case side2 => exact (Kd.V_reads' HO387.out).2.1); (case side3 => refine (Kd.V_reads' (e := 9) (base := w.heap.size) (ok := fun k_ => ((((P0_1_ k_ ∨ P0_2_ k_ ∨ P0_3_ k_) ∨ w.heap.size ≤ k_) ∧ (some k_ ≠ (.slice (some ad376) t373.length co35 : Value).ownBlock ∧ k_ ≠ gb367)) ∧ k_ ≠ gb377)) (n := l0_2.length) (c := c0_2) ?_).2.2; exact (by (with_reducible repeat (first | apply vA | apply vN | apply vD)); exact (Kd.V_mono (Kd.V_far (p := ⟨gb377, 3, none⟩) (Kd.V_far (p := ⟨gb377, 2, none⟩) (Kd.V_far (p := ⟨gb377, 1, none⟩) (Kd.V_far (p := ⟨gb377, 0, none⟩) (Kd.V_mono HO_368002.out (fun k_ hk => (⟨hk, hk.2⟩ : _ ∧ k_ ≠ gb377))) (fun _ hk => hk.2) (.bool true)) (fun _ hk => hk.2) (.slice A37 y378.length c37)) (fun _ hk => hk.2) (.slice A38 y383.length c38)) (fun _ hk => hk.2) (.slice A39 y388.length c39)) (fun _ h_ => h_.1)))); (case side4 => exact (Kd.V_reads' HO_368002.out).2.1); rintro e w' ⟨rfl, ⟨nd, rfl⟩⟩; (try first | exact ⟨rfl, _, World.drewN_drewN _ _ _⟩ | exact ⟨rfl, _, Eq.trans (World.drewN_drewN _ _ _) (congrArg (World.drewN _) (Nat.add_assoc _ _ _))⟩))))
              go_meet
              case rel => exact ⟨_, (!t393), (by first | rfl | (simp; done) | (simp [*]; done)), H', ⟨by have := HJ2.out; have := HK2.out; first | omega | exact Nat.le_refl _⟩, ⟨by (with_reducible repeat (first | apply nA | apply nN | apply nD)); exact Kd.N_mono (Kd.N_far (p := ⟨gb377, 3, none⟩) (Kd.N_far (p := ⟨gb377, 2, none⟩) (Kd.N_far (p := ⟨gb377, 1, none⟩) (Kd.N_far (p := ⟨gb377, 0, none⟩) (Kd.N_mono HO_4.out (fun k_ hk => (⟨hk, hk.2⟩ : _ ∧ k_ ≠ gb377))) (fun _ hk => hk.2) (.bool true)) (fun _ hk => hk.2) (.slice A37 y378.length c37)) (fun _ hk => hk.2) (.slice A38 y383.length c38)) (fun _ hk => hk.2) (.slice A39 y388.length c39)) (fun _ hk => ⟨hk.1.1.1, ⟨hk.1.1.2, hk.1.2⟩⟩)⟩, ⟨by (with_reducible repeat (first | apply vA | apply vN | apply vD)); exact Kd.V_mono (Kd.V_far (p := ⟨gb377, 3, none⟩) (Kd.V_far (p := ⟨gb377, 2, none⟩) (Kd.V_far (p := ⟨gb377, 1, none⟩) (Kd.V_far (p := ⟨gb377, 0, none⟩) (Kd.V_mono HO_368001.out (fun k_ hk => (⟨hk, hk.2⟩ : _ ∧ k_ ≠ gb377))) (fun _ hk => hk.2) (.bool true)) (fun _ hk => hk.2) (.slice A37 y378.length c37)) (fun _ hk => hk.2) (.slice A38 y383.length c38)) (fun _ hk => hk.2) (.slice A39 y388.length c39)) (fun _ hk => ⟨hk.1.1.1, ⟨hk.1.1.2.1, ⟨hk.1.1.2.2, hk.1.2⟩⟩⟩)⟩, ⟨by (with_reducible repeat (first | apply vA | apply vN | apply vD)); exact Kd.V_mono (Kd.V_far (p := ⟨gb377, 3, none⟩) (Kd.V_far (p := ⟨gb377, 2, none⟩) (Kd.V_far (p := ⟨gb377, 1, none⟩) (Kd.V_far (p := ⟨gb377, 0, none⟩) (Kd.V_mono HO_368002.out (fun k_ hk => (⟨hk, hk.2⟩ : _ ∧ k_ ≠ gb377))) (fun _ hk => hk.2) (.bool true)) (fun _ hk => hk.2) (.slice A37 y378.length c37)) (fun _ hk => hk.2) (.slice A38 y383.length c38)) (fun _ hk => hk.2) (.slice A39 y388.length c39)) (fun _ hk => ⟨hk.1.1.1, ⟨hk.1.1.2.1, ⟨hk.1.1.2.2, hk.1.2⟩⟩⟩)⟩, ⟨by (with_reducible repeat (first | apply vA | apply vN | apply vD)); exact Kd.V_mono (Kd.V_far (p := ⟨gb377, 3, none⟩) (Kd.V_far (p := ⟨gb377, 2, none⟩) (Kd.V_far (p := ⟨gb377, 1, none⟩) (Kd.V_far (p := ⟨gb377, 0, none⟩) (Kd.V_mono HO_368003.out (fun k_ hk => (⟨hk, hk.2⟩ : _ ∧ k_ ≠ gb377))) (fun _ hk => hk.2) (.bool true)) (fun _ hk => hk.2) (.slice A37 y378.length c37)) (fun _ hk => hk.2) (.slice A38 y383.length c38)) (fun _ hk => hk.2) (.slice A39 y388.length c39)) (fun _ hk => ⟨hk.1.1.1, ⟨hk.1.1.2.1, ⟨hk.1.1.2.2, hk.1.2⟩⟩⟩)⟩, ⟨by (with_reducible repeat (first | apply vA | apply vN | apply vD)); exact Kd.V_mono (Kd.V_far (p := ⟨gb377, 3, none⟩) (Kd.V_far (p := ⟨gb377, 2, none⟩) (Kd.V_far (p := ⟨gb377, 1, none⟩) (Kd.V_far (p := ⟨gb377, 0, none⟩) (Kd.V_mono HO382.out (fun k_ hk => (⟨hk, hk.2⟩ : _ ∧ k_ ≠ gb377))) (fun _ hk => hk.2) (.bool true)) (fun _ hk => hk.2) (.slice A37 y378.length c37)) (fun _ hk => hk.2) (.slice A38 y383.length c38)) (fun _ hk => hk.2) (.slice A39 y388.length c39)) (fun _ hk => ⟨hk.1.1.1.1, ⟨hk.1.1.2, ⟨hk.1.1.1.2, hk.1.2⟩⟩⟩)⟩, ⟨by (with_reducible repeat (first | apply vA | apply vN | apply vD)); exact Kd.V_mono (Kd.V_far (p := ⟨gb377, 3, none⟩) (Kd.V_far (p := ⟨gb377, 2, none⟩) (Kd.V_far (p := ⟨gb377, 1, none⟩) (Kd.V_far (p := ⟨gb377, 0, none⟩) (Kd.V_mono HO387.out (fun k_ hk => (⟨hk, hk.2⟩ : _ ∧ k_ ≠ gb377))) (fun _ hk => hk.2) (.bool true)) (fun _ hk => hk.2) (.slice A37 y378.length c37)) (fun _ hk => hk.2) (.slice A38 y383.length c38)) (fun _ hk => hk.2) (.slice A39 y388.length c39)) (fun _ hk => ⟨hk.1.1.1.1, ⟨hk.1.1.2, ⟨hk.1.1.1.2, hk.1.2⟩⟩⟩)⟩, ⟨by (with_reducible repeat (first | apply vA | apply vN | apply vD)); exact Kd.V_mono (Kd.V_far (p := ⟨gb377, 3, none⟩) (Kd.V_far (p := ⟨gb377, 2, none⟩) (Kd.V_far (p := ⟨gb377, 1, none⟩) (Kd.V_far (p := ⟨gb377, 0, none⟩) (Kd.V_mono HO392.out (fun k_ hk => (⟨hk, hk.2⟩ : _ ∧ k_ ≠ gb377))) (fun _ hk => hk.2) (.bool true)) (fun _ hk => hk.2) (.slice A37 y378.length c37)) (fun _ hk => hk.2) (.slice A38 y383.length c38)) (fun _ hk => hk.2) (.slice A39 y388.length c39)) (fun _ hk => ⟨hk.1.1.1.1, ⟨hk.1.1.2, ⟨hk.1.1.1.2, hk.1.2⟩⟩⟩)⟩, ⟨by (with_reducible repeat (first | refine blk_drewN ?_ _ | refine blk_drew ?_ | refine blk_alloc ?_ _)); refine blk_far ?_ NB367_377.out _; (with_reducible repeat (first | refine blk_drewN ?_ _ | refine blk_drew ?_ | refine blk_alloc ?_ _)); refine blk_far ?_ NB367_377.out _; (with_reducible repeat (first | refine blk_drewN ?_ _ | refine blk_drew ?_ | refine blk_alloc ?_ _)); refine blk_far ?_ NB367_377.out _; (with_reducible repeat (first | refine blk_drewN ?_ _ | refine blk_drew ?_ | refine blk_alloc ?_ _)); refine blk_far ?_ NB367_377.out _; (with_reducible repeat (first | refine blk_drewN ?_ _ | refine blk_drew ?_ | refine blk_alloc ?_ _)); exact BK367.out⟩, ⟨by (with_reducible repeat (first | refine blk_drewN ?_ _ | refine blk_drew ?_ | refine blk_alloc ?_ _)); refine blk_put (cs := #[.bool true, .slice A37 y378.length c37, .slice A38 y383.length c38, .slice none 0 0]) ?_ 3 _ rfl; (with_reducible repeat (first | refine blk_drewN ?_ _ | refine blk_drew ?_ | refine blk_alloc ?_ _)); refine blk_put (cs := #[.bool true, .slice A37 y378.length c37, .slice none 0 0, .slice none 0 0]) ?_ 2 _ rfl; (with_reducible repeat (first | refine blk_drewN ?_ _ | refine blk_drew ?_ | refine blk_alloc ?_ _)); refine blk_put (cs := #[.bool true, .slice none 0 0, .slice none 0 0, .slice none 0 0]) ?_ 1 _ rfl; (with_reducible repeat (first | refine blk_drewN ?_ _ | refine blk_drew ?_ | refine blk_alloc ?_ _)); refine blk_put (cs := #[.bool false, .slice none 0 0, .slice none 0 0, .slice none 0 0]) ?_ 0 _ rfl; (with_reducible repeat (first | refine blk_drewN ?_ _ | refine blk_drew ?_ | refine blk_alloc ?_ _)); exact BK377.out⟩, ⟨(Kd.V_reads' (by (with_reducible repeat (first | apply vA | apply vN | apply vD)); exact (Kd.V_mono (Kd.V_far (p := ⟨gb377, 3, none⟩) (Kd.V_far (p := ⟨gb377, 2, none⟩) (Kd.V_far (p := ⟨gb377, 1, none⟩) (Kd.V_far (p := ⟨gb377, 0, none⟩) (Kd.V_mono HL376_1.out (fun k_ hk => (⟨hk, hk.2⟩ : _ ∧ k_ ≠ gb377))) (fun _ hk => hk.2) (.bool true)) (fun _ hk => hk.2) (.slice A37 y378.length c37)) (fun _ hk => hk.2) (.slice A38 y383.length c38)) (fun _ hk => hk.2) (.slice A39 y388.length c39)) (fun _ h_ => h_.1)))).2.2⟩, ⟨(Kd.V_reads' (by (with_reducible repeat (first | apply vA | apply vN | apply vD)); exact (Kd.V_mono (Kd.V_far (p := ⟨gb377, 3, none⟩) (Kd.V_far (p := ⟨gb377, 2, none⟩) (Kd.V_far (p := ⟨gb377, 1, none⟩) (Kd.V_far (p := ⟨gb377, 0, none⟩) (Kd.V_mono HL376_2.out (fun k_ hk => (⟨hk, hk.2⟩ : _ ∧ k_ ≠ gb377))) (fun _ hk => hk.2) (.bool true)) (fun _ hk => hk.2) (.slice A37 y378.length c37)) (fun _ hk => hk.2) (.slice A38 y383.length c38)) (fun _ hk => hk.2) (.slice A39 y388.length c39)) (fun _ h_ => h_.1)))).2.2⟩, ⟨(Kd.V_reads' (by (with_reducible repeat (first | apply vA | apply vN | apply vD)); exact (Kd.V_mono (Kd.V_far (p := ⟨gb377, 3, none⟩) (Kd.V_far (p := ⟨gb377, 2, none⟩) (Kd.V_far (p := ⟨gb377, 1, none⟩) (Kd.V_far (p := ⟨gb377, 0, none⟩) (Kd.V_mono HL376_3.out (fun k_ hk => (⟨hk, hk.2⟩ : _ ∧ k_ ≠ gb377))) (fun _ hk => hk.2) (.bool true)) (fun _ hk => hk.2) (.slice A37 y378.length c37)) (fun _ hk => hk.2) (.slice A38 y383.length c38)) (fun _ hk => hk.2) (.slice A39 y388.length c39)) (fun _ h_ => h_.1)))).2.2⟩, ⟨by repeat (first | (with_reducible first | exact HB.out | apply below_alloc | apply pw_below_drewN | apply below_drew1 | refine below_set ?_ GE367.out | refine below_set ?_ GE377.out) | exact HB.out)⟩⟩
             ·rw [if_neg c42] at H
              have c42b0 : ((y388.length : Int) == (l0_3.length : Int)) = false := beq_eq_false_iff_ne.mpr c42
              have c42b1 : ((y388.length : Int) != (l0_3.length : Int)) = true := bne_iff_ne.mpr c42
              have c42b2 : (y388.length == l0_3.length) = false := by first | simpa using c42 | (simp at c42 ⊢; omega)
              (first | rw [c42b0] | (simp only [i64_w, i32_w]; rw [c42b0]) | skip)
              have H' := am H
              clear H
              have hnb47 := NB377_367.out
              have hnc47 := NB367_377.out
              have hcz48_0 : w36.cell? ⟨gb377, 0, none⟩ = some (.bool false) := (blk_cell BK377.out 0).trans rfl
              have hcz48_1 : w36.cell? ⟨gb377, 1, none⟩ = some (.slice none 0 0) := (blk_cell BK377.out 1).trans rfl
              have hcz48_2 : w36.cell? ⟨gb377, 2, none⟩ = some (.slice none 0 0) := (blk_cell BK377.out 2).trans rfl
              have hcz48_3 : w36.cell? ⟨gb377, 3, none⟩ = some (.slice none 0 0) := (blk_cell BK377.out 3).trans rfl
              have hfz48_0 := blk_frozen BK377.out 0
              have hfz48_1 := blk_frozen BK377.out 1
              have hfz48_2 := blk_frozen BK377.out 2
              have hfz48_3 := blk_frozen BK377.out 3
              have hcz49_0 : w36.cell? ⟨gb367, 0, none⟩ = some (.bool a0_0) := (blk_cell BK367.out 0).trans rfl
              have hcz49_1 : w36.cell? ⟨gb367, 1, none⟩ = some (.slice A0_1 l0_1.length c0_1) := (blk_cell BK367.out 1).trans rfl
              have hcz49_2 : w36.cell? ⟨gb367, 2, none⟩ = some (.slice A0_2 l0_2.length c0_2) := (blk_cell BK367.out 2).trans rfl
              have hcz49_3 : w36.cell? ⟨gb367, 3, none⟩ = some (.slice A0_3 l0_3.length c0_3) := (blk_cell BK367.out 3).trans rfl
              have hfz49_0 := blk_frozen BK367.out 0
              have hfz49_1 := blk_frozen BK367.out 1
              have hfz49_2 := blk_frozen BK367.out 2
              have hfz49_3 := blk_frozen BK367.out 3
              go_wp2
              repeat (go_quiet (fail); try go_wp2)
              go_meet
              case rel => exact ⟨_, (true), (by first | rfl | (simp; done) | (simp [*]; done)), H', ⟨by have := HJ2.out; have := HK2.out; first | omega | exact Nat.le_refl _⟩, ⟨by (with_reducible repeat (first | apply nA | apply nN | apply nD)); exact Kd.N_mono (Kd.N_far (p := ⟨gb377, 3, none⟩) (Kd.N_far (p := ⟨gb377, 2, none⟩) (Kd.N_far (p := ⟨gb377, 1, none⟩) (Kd.N_far (p := ⟨gb377, 0, none⟩) (Kd.N_mono HO_4.out (fun k_ hk => (⟨hk, hk.2⟩ : _ ∧ k_ ≠ gb377))) (fun _ hk => hk.2) (.bool true)) (fun _ hk => hk.2) (.slice A37 y378.length c37)) (fun _ hk => hk.2) (.slice A38 y383.length c38)) (fun _ hk => hk.2) (.slice A39 y388.length c39)) (fun _ hk => ⟨hk.1.1.1, ⟨hk.1.1.2, hk.1.2⟩⟩)⟩, ⟨by (with_reducible repeat (first | apply vA | apply vN | apply vD)); exact Kd.V_mono (Kd.V_far (p := ⟨gb377, 3, none⟩) (Kd.V_far (p := ⟨gb377, 2, none⟩) (Kd.V_far (p := ⟨gb377, 1, none⟩) (Kd.V_far (p := ⟨gb377, 0, none⟩) (Kd.V_mono HO_368001.out (fun k_ hk => (⟨hk, hk.2⟩ : _ ∧ k_ ≠ gb377))) (fun _ hk => hk.2) (.bool true)) (fun _ hk => hk.2) (.slice A37 y378.length c37)) (fun _ hk => hk.2) (.slice A38 y383.length c38)) (fun _ hk => hk.2) (.slice A39 y388.length c39)) (fun _ hk => ⟨hk.1.1.1, ⟨hk.1.1.2.1, ⟨hk.1.1.2.2, hk.1.2⟩⟩⟩)⟩, ⟨by (with_reducible repeat (first | apply vA | apply vN | apply vD)); exact Kd.V_mono (Kd.V_far (p := ⟨gb377, 3, none⟩) (Kd.V_far (p := ⟨gb377, 2, none⟩) (Kd.V_far (p := ⟨gb377, 1, none⟩) (Kd.V_far (p := ⟨gb377, 0, none⟩) (Kd.V_mono HO_368002.out (fun k_ hk => (⟨hk, hk.2⟩ : _ ∧ k_ ≠ gb377))) (fun _ hk => hk.2) (.bool true)) (fun _ hk => hk.2) (.slice A37 y378.length c37)) (fun _ hk => hk.2) (.slice A38 y383.length c38)) (fun _ hk => hk.2) (.slice A39 y388.length c39)) (fun _ hk => ⟨hk.1.1.1, ⟨hk.1.1.2.1, ⟨hk.1.1.2.2, hk.1.2⟩⟩⟩)⟩, ⟨by (with_reducible repeat (first | apply vA | apply vN | apply vD)); exact Kd.V_mono (Kd.V_far (p := ⟨gb377, 3, none⟩) (Kd.V_far (p := ⟨gb377, 2, none⟩) (Kd.V_far (p := ⟨gb377, 1, none⟩) (Kd.V_far (p := ⟨gb377, 0, none⟩) (Kd.V_mono HO_368003.out (fun k_ hk => (⟨hk, hk.2⟩ : _ ∧ k_ ≠ gb377))) (fun _ hk => hk.2) (.bool true)) (fun _ hk => hk.2) (.slice A37 y378.length c37)) (fun _ hk => hk.2) (.slice A38 y383.length c38)) (fun _ hk => hk.2) (.slice A39 y388.length c39)) (fun _ hk => ⟨hk.1.1.1, ⟨hk.1.1.2.1, ⟨hk.1.1.2.2, hk.1.2⟩⟩⟩)⟩, ⟨by (with_reducible repeat (first | apply vA | apply vN | apply vD)); exact Kd.V_mono (Kd.V_far (p := ⟨gb377, 3, none⟩) (Kd.V_far (p := ⟨gb377, 2, none⟩) (Kd.V_far (p := ⟨gb377, 1, none⟩) (Kd.V_far (p := ⟨gb377, 0, none⟩) (Kd.V_mono HO382.out (fun k_ hk => (⟨hk, hk.2⟩ : _ ∧ k_ ≠ gb377))) (fun _ hk => hk.2) (.bool true)) (fun _ hk => hk.2) (.slice A37 y378.length c37)) (fun _ hk => hk.2) (.slice A38 y383.length c38)) (fun _ hk => hk.2) (.slice A39 y388.length c39)) (fun _ hk => ⟨hk.1.1.1.1, ⟨hk.1.1.2, ⟨hk.1.1.1.2, hk.1.2⟩⟩⟩)⟩, ⟨by (with_reducible repeat (first | apply vA | apply vN | apply vD)); exact Kd.V_mono (Kd.V_far (p := ⟨gb377, 3, none⟩) (Kd.V_far (p := ⟨gb377, 2, none⟩) (Kd.V_far (p := ⟨gb377, 1, none⟩) (Kd.V_far (p := ⟨gb377, 0, none⟩) (Kd.V_mono HO387.out (fun k_ hk => (⟨hk, hk.2⟩ : _ ∧ k_ ≠ gb377))) (fun _ hk => hk.2) (.bool true)) (fun _ hk => hk.2) (.slice A37 y378.length c37)) (fun _ hk => hk.2) (.slice A38 y383.length c38)) (fun _ hk => hk.2) (.slice A39 y388.length c39)) (fun _ hk => ⟨hk.1.1.1.1, ⟨hk.1.1.2, ⟨hk.1.1.1.2, hk.1.2⟩⟩⟩)⟩, ⟨by (with_reducible repeat (first | apply vA | apply vN | apply vD)); exact Kd.V_mono (Kd.V_far (p := ⟨gb377, 3, none⟩) (Kd.V_far (p := ⟨gb377, 2, none⟩) (Kd.V_far (p := ⟨gb377, 1, none⟩) (Kd.V_far (p := ⟨gb377, 0, none⟩) (Kd.V_mono HO392.out (fun k_ hk => (⟨hk, hk.2⟩ : _ ∧ k_ ≠ gb377))) (fun _ hk => hk.2) (.bool true)) (fun _ hk => hk.2) (.slice A37 y378.length c37)) (fun _ hk => hk.2) (.slice A38 y383.length c38)) (fun _ hk => hk.2) (.slice A39 y388.length c39)) (fun _ hk => ⟨hk.1.1.1.1, ⟨hk.1.1.2, ⟨hk.1.1.1.2, hk.1.2⟩⟩⟩)⟩, ⟨by (with_reducible repeat (first | refine blk_drewN ?_ _ | refine blk_drew ?_ | refine blk_alloc ?_ _)); refine blk_far ?_ NB367_377.out _; (with_reducible repeat (first | refine blk_drewN ?_ _ | refine blk_drew ?_ | refine blk_alloc ?_ _)); refine blk_far ?_ NB367_377.out _; (with_reducible repeat (first | refine blk_drewN ?_ _ | refine blk_drew ?_ | refine blk_alloc ?_ _)); refine blk_far ?_ NB367_377.out _; (with_reducible repeat (first | refine blk_drewN ?_ _ | refine blk_drew ?_ | refine blk_alloc ?_ _)); refine blk_far ?_ NB367_377.out _; (with_reducible repeat (first | refine blk_drewN ?_ _ | refine blk_drew ?_ | refine blk_alloc ?_ _)); exact BK367.out⟩, ⟨by (with_reducible repeat (first | refine blk_drewN ?_ _ | refine blk_drew ?_ | refine blk_alloc ?_ _)); refine blk_put (cs := #[.bool true, .slice A37 y378.length c37, .slice A38 y383.length c38, .slice none 0 0]) ?_ 3 _ rfl; (with_reducible repeat (first | refine blk_drewN ?_ _ | refine blk_drew ?_ | refine blk_alloc ?_ _)); refine blk_put (cs := #[.bool true, .slice A37 y378.length c37, .slice none 0 0, .slice none 0 0]) ?_ 2 _ rfl; (with_reducible repeat (first | refine blk_drewN ?_ _ | refine blk_drew ?_ | refine blk_alloc ?_ _)); refine blk_put (cs := #[.bool true, .slice none 0 0, .slice none 0 0, .slice none 0 0]) ?_ 1 _ rfl; (with_reducible repeat (first | refine blk_drewN ?_ _ | refine blk_drew ?_ | refine blk_alloc ?_ _)); refine blk_put (cs := #[.bool false, .slice none 0 0, .slice none 0 0, .slice none 0 0]) ?_ 0 _ rfl; (with_reducible repeat (first | refine blk_drewN ?_ _ | refine blk_drew ?_ | refine blk_alloc ?_ _)); exact BK377.out⟩, ⟨(Kd.V_reads' (by (with_reducible repeat (first | apply vA | apply vN | apply vD)); exact (Kd.V_mono (Kd.V_far (p := ⟨gb377, 3, none⟩) (Kd.V_far (p := ⟨gb377, 2, none⟩) (Kd.V_far (p := ⟨gb377, 1, none⟩) (Kd.V_far (p := ⟨gb377, 0, none⟩) (Kd.V_mono HL376_1.out (fun k_ hk => (⟨hk, hk.2⟩ : _ ∧ k_ ≠ gb377))) (fun _ hk => hk.2) (.bool true)) (fun _ hk => hk.2) (.slice A37 y378.length c37)) (fun _ hk => hk.2) (.slice A38 y383.length c38)) (fun _ hk => hk.2) (.slice A39 y388.length c39)) (fun _ h_ => h_.1)))).2.2⟩, ⟨(Kd.V_reads' (by (with_reducible repeat (first | apply vA | apply vN | apply vD)); exact (Kd.V_mono (Kd.V_far (p := ⟨gb377, 3, none⟩) (Kd.V_far (p := ⟨gb377, 2, none⟩) (Kd.V_far (p := ⟨gb377, 1, none⟩) (Kd.V_far (p := ⟨gb377, 0, none⟩) (Kd.V_mono HL376_2.out (fun k_ hk => (⟨hk, hk.2⟩ : _ ∧ k_ ≠ gb377))) (fun _ hk => hk.2) (.bool true)) (fun _ hk => hk.2) (.slice A37 y378.length c37)) (fun _ hk => hk.2) (.slice A38 y383.length c38)) (fun _ hk => hk.2) (.slice A39 y388.length c39)) (fun _ h_ => h_.1)))).2.2⟩, ⟨(Kd.V_reads' (by (with_reducible repeat (first | apply vA | apply vN | apply vD)); exact (Kd.V_mono (Kd.V_far (p := ⟨gb377, 3, none⟩) (Kd.V_far (p := ⟨gb377, 2, none⟩) (Kd.V_far (p := ⟨gb377, 1, none⟩) (Kd.V_far (p := ⟨gb377, 0, none⟩) (Kd.V_mono HL376_3.out (fun k_ hk => (⟨hk, hk.2⟩ : _ ∧ k_ ≠ gb377))) (fun _ hk => hk.2) (.bool true)) (fun _ hk => hk.2) (.slice A37 y378.length c37)) (fun _ hk => hk.2) (.slice A38 y383.length c38)) (fun _ hk => hk.2) (.slice A39 y388.length c39)) (fun _ h_ => h_.1)))).2.2⟩, ⟨by repeat (first | (with_reducible first | exact HB.out | apply below_alloc | apply pw_below_drewN | apply below_drew1 | refine below_set ?_ GE367.out | refine below_set ?_ GE377.out) | exact HB.out)⟩⟩
            case rest =>
             clear HC34
             (try clear c1); (try clear c2); (try clear p2); (try clear c3); (try clear p3); (try clear q3); (try clear hx3); (try clear c4); (try clear p6); (try clear c7); (try clear c8); (try clear c12); (try clear c23); (try clear c27); (try clear c27b0); (try clear c28); (try clear c28b0); (try clear c29); (try clear c29b0); (try clear c29b1); (try clear c30); (try clear c30b0); (try clear c30b1); (try clear c31); (try clear c31b0); (try clear c31b1); (try clear q32); (try clear c33); (try clear c37); (try clear p37); (try clear q37); (try clear hx37); (try clear c38); (try clear q38); (try clear c39); (try clear q39); (try clear c40); (try clear c42); (try clear c42b0); (try clear c42b1); (try clear c42b2); (try clear c44); (try clear c47); (try clear hcz13_0); (try clear hcz13_1); (try clear hcz13_2); (try clear hcz13_3); (try clear hcz14_0); (try clear hcz14_1); (try clear hcz14_2); (try clear hcz14_3); (try clear hcz18_0); (try clear hcz18_1); (try clear hcz18_2); (try clear hcz18_3); (try clear hcz19_0); (try clear hcz19_1); (try clear hcz19_2); (try clear hcz19_3); (try clear hcz25_0); (try clear hcz25_1); (try clear hcz25_2); (try clear hcz25_3); (try clear hcz41_0); (try clear hcz41_1); (try clear hcz41_2); (try clear hcz41_3); (try clear hcz45_0); (try clear hcz45_1); (try clear hcz45_2); (try clear hcz45_3); (try clear hcz46_0); (try clear hcz46_1); (try clear hcz46_2); (try clear hcz46_3); (try clear hcz48_0); (try clear hcz48_1); (try clear hcz48_2); (try clear hcz48_3); (try clear hcz49_0); (try clear hcz49_1); (try clear hcz49_2); (try clear hcz49_3); (try clear hcz9_0); (try clear hcz9_1); (try clear hcz9_2); (try clear hcz9_3); (try clear hfz13_0); (try clear hfz13_1); (try clear hfz13_2); (try clear hfz13_3); (try clear hfz14_0); (try clear hfz14_1); (try clear hfz14_2); (try clear hfz14_3); (try clear hfz18_0); (try clear hfz18_1); (try clear hfz18_2); (try clear hfz18_3); (try clear hfz19_0); (try clear hfz19_1); (try clear hfz19_2); (try clear hfz19_3); (try clear hfz25_0); (try clear hfz25_1); (try clear hfz25_2); (try clear hfz25_3); (try clear hfz41_0); (try clear hfz41_1); (try clear hfz41_2); (try clear hfz41_3); (try clear hfz45_0); (try clear hfz45_1); (try clear hfz45_2); (try clear hfz45_3); (try clear hfz46_0); (try clear hfz46_1); (try clear hfz46_2); (try clear hfz46_3); (try clear hfz48_0); (try clear hfz48_1); (try clear hfz48_2); (try clear hfz48_3); (try clear hfz49_0); (try clear hfz49_1); (try clear hfz49_2); (try clear hfz49_3); (try clear hfz9_0); (try clear hfz9_1); (try clear hfz9_2); (try clear hfz9_3); (try clear hx376_0); (try clear hx376_1); (try clear hx376_2); (try clear hx376_3); (try clear p2); (try clear p376); (try clear q37); (try clear q376); (try clear q38); (try clear q39)
             obtain ⟨kq, x58_33, rfl, HA, HJ33, HO_4, HO_368001, HO_368002, HO_368003, HO_378001, HO_378002, HO_378003, BK367, BK377, HR376_1, HR376_2, HR376_3, HB⟩ := hcut
             cases kq with
             | zero => exact absurd HA.out (by simp [sennitlaw10_ZealEnds.j2])
             | succ kj33 =>
              have H := HA.out
              clear HA
              simp only [sennitlaw10_ZealEnds.j2] at H
              by_cases c50 : x58_33 = true
              ·subst c50
               have H1 : (none) = some r := by rw [if_pos rfl] at H; exact H
               clear H
               have H := H1
               clear H1
               exact absurd H (by simp)
              ·replace c50 := Bool.eq_false_iff.mpr c50
               subst c50
               have H1 : (if 0 < (y388.length : Int) then (if 0 ≤ ((rd_L1 y388 0).length : Int) then ((some ((rd_L1 y388 0).drop 0 : List ByteArray)).bind fun y395 => (sennitlaw10_ZealEnds.l1 kj33 t368 t373 x5_2 y395 (decide ((y395.length : Int) > 0)) (decide ((y395.length : Int) > 0)) 1 a0_0 l0_1 l0_2 l0_3 true y378 y383 y388)) else (none)) else (none)) = some r := by rw [if_neg (show ¬ (false = true) by decide)] at H; exact H
               clear H
               have H := H1
               clear H1
               by_cases c51 : 0 < (y388.length : Int)
               ·rw [if_pos c51] at H
                have c51b0 : decide (0 < (y388.length : Int)) = true := decide_eq_true c51
                have c51b1 : decide (0 < y388.length) = true := decide_eq_true (by omega)
                clear c51
                by_cases c52 : 0 ≤ ((rd_L1 y388 0).length : Int)
                ·rw [if_pos c52] at H
                 have c52b0 := eq_true c52
                 have c52b1 : decide (0 ≤ ((rd_L1 y388 0).length : Int)) = true := decide_eq_true c52
                 clear c52
                 obtain ⟨y395, hy395⟩ : ∃ y_ : List ByteArray, y_ = ((rd_L1 y388 0).drop 0) := ⟨_, rfl⟩
                 replace H : (sennitlaw10_ZealEnds.l1 kj33 t368 t373 x5_2 y395 (decide ((y395.length : Int) > 0)) (decide ((y395.length : Int) > 0)) 1 a0_0 l0_1 l0_2 l0_3 true y378 y383 y388) = some r := by first | (rw [hy395]; with_reducible exact H) | (have H2_ := (Option.bind_some _ _).symm.trans H; rw [hy395]; with_reducible exact H2_) | (have H2_ := (Option.bind_some _ _).symm.trans H; with_reducible exact H2_) | with_reducible exact H | (rw [hy395]; exact H) | exact H
                 have Ny395 := am hy395
                 clear hy395
                 have H' := am H
                 clear H
                 have hnb53 := NB377_367.out
                 have hnc53 := NB367_377.out
                 have hcz54_0 : wc.cell? ⟨gb377, 0, none⟩ = some (.bool true) := (blk_cell BK377.out 0).trans rfl
                 have hcz54_1 : wc.cell? ⟨gb377, 1, none⟩ = some (.slice A37 y378.length c37) := (blk_cell BK377.out 1).trans rfl
                 have hcz54_2 : wc.cell? ⟨gb377, 2, none⟩ = some (.slice A38 y383.length c38) := (blk_cell BK377.out 2).trans rfl
                 have hcz54_3 : wc.cell? ⟨gb377, 3, none⟩ = some (.slice A39 y388.length c39) := (blk_cell BK377.out 3).trans rfl
                 have hfz54_0 := blk_frozen BK377.out 0
                 have hfz54_1 := blk_frozen BK377.out 1
                 have hfz54_2 := blk_frozen BK377.out 2
                 have hfz54_3 := blk_frozen BK377.out 3
                 have p394 : 0 ≤ (0 : Int) := (by omega)
                 have q394 : 0 < (y388.length : Int) := of_decide_eq_true (by first | (with_reducible assumption) | assumption)
                 obtain ⟨ad394, A394_0, c394_0, e394, hx394_0, hl394_0, hi394_0⟩ := at_L1 (Kd.V_reads' HO_378003.out).2.2 0 p394 q394
                 cases e394
                 obtain ⟨ce394, hce394, hMe394, hcc394⟩ := Kd.V_get HO_378003.out [] 0 p394 (by first | exact q394 | exact of_decide_eq_true (by first | (with_reducible assumption) | assumption) | (have e_ := (Kd.V_reads' HO_378003.out).1; omega))
                 obtain ⟨ua394_0, uc394_0, rfl, ul394_0, ge394_0⟩ := Kd.FK_slice_open hMe394
                 have hv394_0 := hcc394 0 _ rfl
                 rw [Nat.add_zero, show ((Kd.slice 9 Kd.string)).sz = 1 from rfl, Nat.mul_one] at hv394_0
                 replace hv394_0 := Option.some.inj (hv394_0.symm.trans hx394_0)
                 injection hv394_0 with hva_ hvn_ hvc_
                 rw [hva_] at ge394_0
                 rw [hvc_] at ul394_0
                 have HL394_0 := am (show Kd.V Kd.string 9 _ w.heap.size _ _ (rd_L1 y388 0) from Kd.V_mk ul394_0 ge394_0)
                 clear hva_ hvn_ hvc_ ge394_0 ul394_0
                 clear hcc394 hce394
                 have qi394 : (0 < y388.length) = True := eq_true (by omega)
                 (try rw [show ((0 : Int)).toNat = 0 from rfl] at hx394_0)
                 (try rw [Addr.add_zero'] at hx394_0)
                 have HR394_0 := am hi394_0
                 have HC394_0 := am hl394_0
                 clear hi394_0 hl394_0
                 replace p394 := eq_true p394
                 replace q394 := eq_true q394
                 have q55 : (0 : Int) ≤ (((rd_L1 y388 0).length : Int) : Int) := of_decide_eq_true (by first | (with_reducible assumption) | assumption)
                 obtain ⟨A55, hA55⟩ : ∃ A1x_, A1x_ = A394_0 := ⟨_, rfl⟩
                 obtain ⟨c55, hc55⟩ : ∃ c1x_, c1x_ = c394_0 := ⟨_, rfl⟩
                 have hy55 : (rd_L1 y388 0) = y395 := (by rw [Ny395.out]; rfl)
                 have hv55 : Value.slice A394_0 (rd_L1 y388 0).length c394_0 = .slice A55 y395.length c55 := (by rw [hA55, hc55, hy55])
                 have HO399 := HL394_0
                 rw [hv55, hy55] at HO399
                 have HC399 : Aside0 (y395.length ≤ c55) := ⟨by rw [hc55, ← hy55]; exact HC394_0.out⟩
                 clear hA55 hc55 hy55
                 replace q55 := eq_true q55
                 go_wp2
                 repeat (go_quiet (fail); try go_wp2)
                 obtain ⟨bg55, hbg55⟩ : ∃ b_ : Bool, b_ = decide (0 < y395.length) := ⟨_, rfl⟩
                 rw [← hbg55]
                 go_loopg [8, 9, 10] kj33 (fun kq v8 v9 v10 w' => ∃ (x8_4 : Bool) (x9_4 : Bool) (x10_4 : Int), v8 = .bool x8_4 ∧ v9 = .bool x9_4 ∧ v10 = .int .i64 x10_4 ∧ Aside0 (sennitlaw10_ZealEnds.l1 kq t368 t373 x5_2 y395 x8_4 x9_4 x10_4 a0_0 l0_1 l0_2 l0_3 true y378 y383 y388 = some r) ∧ Aside0 (kq ≤ kj33) ∧ Aside0 (Kd.N k27 27 w' w.heap.size (fun k_ => ((P0_1_ k_ ∨ P0_2_ k_ ∨ P0_3_ k_) ∨ w.heap.size ≤ k_) ∧ k_ ≠ gb367 ∧ k_ ≠ gb377) (.slice (some ad376) t373.length co35) t373) ∧ Aside0 (Kd.V Kd.string 9 w' w.heap.size (fun k_ => ((P0_1_ k_ ∨ P0_2_ k_ ∨ P0_3_ k_) ∨ w.heap.size ≤ k_) ∧ some k_ ≠ ((.slice (some ad376) t373.length co35) : Value).ownBlock ∧ k_ ≠ gb367 ∧ k_ ≠ gb377) (.slice A55 y395.length c55) y395) ∧ Aside0 (Kd.V Kd.string 9 w' w.heap.size (fun k_ => ((P0_1_ k_ ∨ P0_2_ k_ ∨ P0_3_ k_) ∨ w.heap.size ≤ k_) ∧ some k_ ≠ ((.slice (some ad376) t373.length co35) : Value).ownBlock ∧ k_ ≠ gb367 ∧ k_ ≠ gb377) (.slice A0_1 l0_1.length c0_1) l0_1) ∧ Aside0 (Kd.V Kd.string 9 w' w.heap.size (fun k_ => ((P0_1_ k_ ∨ P0_2_ k_ ∨ P0_3_ k_) ∨ w.heap.size ≤ k_) ∧ some k_ ≠ ((.slice (some ad376) t373.length co35) : Value).ownBlock ∧ k_ ≠ gb367 ∧ k_ ≠ gb377) (.slice A0_2 l0_2.length c0_2) l0_2) ∧ Aside0 (Kd.V (Kd.slice 9 Kd.string) 22 w' w.heap.size (fun k_ => ((P0_1_ k_ ∨ P0_2_ k_ ∨ P0_3_ k_) ∨ w.heap.size ≤ k_) ∧ some k_ ≠ ((.slice (some ad376) t373.length co35) : Value).ownBlock ∧ k_ ≠ gb367 ∧ k_ ≠ gb377) (.slice A0_3 l0_3.length c0_3) l0_3) ∧ Aside0 (Kd.V Kd.string 9 w' w.heap.size (fun k_ => ((P0_1_ k_ ∨ P0_2_ k_ ∨ P0_3_ k_) ∨ w.heap.size ≤ k_) ∧ some k_ ≠ ((.slice (some ad376) t373.length co35) : Value).ownBlock ∧ k_ ≠ gb367 ∧ k_ ≠ gb377) (.slice A37 y378.length c37) y378) ∧ Aside0 (Kd.V Kd.string 9 w' w.heap.size (fun k_ => ((P0_1_ k_ ∨ P0_2_ k_ ∨ P0_3_ k_) ∨ w.heap.size ≤ k_) ∧ some k_ ≠ ((.slice (some ad376) t373.length co35) : Value).ownBlock ∧ k_ ≠ gb367 ∧ k_ ≠ gb377) (.slice A38 y383.length c38) y383) ∧ Aside0 (Kd.V (Kd.slice 9 Kd.string) 22 w' w.heap.size (fun k_ => ((P0_1_ k_ ∨ P0_2_ k_ ∨ P0_3_ k_) ∨ w.heap.size ≤ k_) ∧ some k_ ≠ ((.slice (some ad376) t373.length co35) : Value).ownBlock ∧ k_ ≠ gb367 ∧ k_ ≠ gb377) (.slice (some ad394) y388.length c39) y388) ∧ Aside0 (w'.heap[gb367]? = some (.cells #[.bool a0_0, (.slice A0_1 l0_1.length c0_1), (.slice A0_2 l0_2.length c0_2), (.slice A0_3 l0_3.length c0_3)] 27 (0, 0))) ∧ Aside0 (w'.heap[gb377]? = some (.cells #[.bool true, (.slice A37 y378.length c37), (.slice A38 y383.length c38), (.slice (some ad394) y388.length c39)] 27 (0, 0))) ∧ Aside0 (Kd.C Kd.string w' A376_1 ((rd_T27 t373 x5_2).f1).length ((rd_T27 t373 x5_2).f1)) ∧ Aside0 (Kd.C Kd.string w' A376_2 ((rd_T27 t373 x5_2).f2).length ((rd_T27 t373 x5_2).f2)) ∧ Aside0 (Kd.C (Kd.slice 9 Kd.string) w' A376_3 ((rd_T27 t373 x5_2).f3).length ((rd_T27 t373 x5_2).f3)) ∧ Aside0 (Kd.C Kd.string w' A394_0 (rd_L1 y388 0).length (rd_L1 y388 0)) ∧ Aside0 (Below w.heap.size w w'))
                 case atStart => exact ⟨(decide ((y395.length : Int) > 0)), (decide ((y395.length : Int) > 0)), (1), (by first | rfl | (simp; done) | (simp [*]; done)), (by first | rfl | (simp; done) | (simp [*]; done)), (by first | rfl | (simp; done) | (simp [*]; done)), H', ⟨Nat.le_refl _⟩, ⟨by (with_reducible repeat (first | apply nA | apply nN | apply nD)); exact HO_4.out⟩, ⟨by (with_reducible repeat (first | apply vA | apply vN | apply vD)); exact HO399.out⟩, ⟨by (with_reducible repeat (first | apply vA | apply vN | apply vD)); exact HO_368001.out⟩, ⟨by (with_reducible repeat (first | apply vA | apply vN | apply vD)); exact HO_368002.out⟩, ⟨by (with_reducible repeat (first | apply vA | apply vN | apply vD)); exact HO_368003.out⟩, ⟨by (with_reducible repeat (first | apply vA | apply vN | apply vD)); exact HO_378001.out⟩, ⟨by (with_reducible repeat (first | apply vA | apply vN | apply vD)); exact HO_378002.out⟩, ⟨by (with_reducible repeat (first | apply vA | apply vN | apply vD)); exact HO_378003.out⟩, ⟨by (with_reducible repeat (first | refine blk_drewN ?_ _ | refine blk_drew ?_ | refine blk_alloc ?_ _)); exact BK367.out⟩, ⟨by (with_reducible repeat (first | refine blk_drewN ?_ _ | refine blk_drew ?_ | refine blk_alloc ?_ _)); exact BK377.out⟩, ⟨by repeat (first | (with_reducible exact HR376_1.out) | (with_reducible refine Kd.C_alloc ?_ _) | (with_reducible refine Kd.C_drewN ?_ _) | (with_reducible refine Kd.C_drew ?_) | exact HR376_1.out)⟩, ⟨by repeat (first | (with_reducible exact HR376_2.out) | (with_reducible refine Kd.C_alloc ?_ _) | (with_reducible refine Kd.C_drewN ?_ _) | (with_reducible refine Kd.C_drew ?_) | exact HR376_2.out)⟩, ⟨by repeat (first | (with_reducible exact HR376_3.out) | (with_reducible refine Kd.C_alloc ?_ _) | (with_reducible refine Kd.C_drewN ?_ _) | (with_reducible refine Kd.C_drew ?_) | exact HR376_3.out)⟩, ⟨by repeat (first | (with_reducible exact HR394_0.out) | (with_reducible refine Kd.C_alloc ?_ _) | (with_reducible refine Kd.C_drewN ?_ _) | (with_reducible refine Kd.C_drew ?_) | exact HR394_0.out)⟩, ⟨by repeat (first | (with_reducible first | exact HB.out | apply below_alloc | apply pw_below_drewN | apply below_drew1 | refine below_set ?_ GE367.out | refine below_set ?_ GE377.out) | exact HB.out)⟩⟩
                 case round =>
                  (try clear hbg55)
                  clear H'
                  (try clear c1); (try clear c2); (try clear p2); (try clear c3); (try clear p3); (try clear q3); (try clear hx3); (try clear qi3); (try clear c4); (try clear c5); (try clear q5); (try clear p6); (try clear c7); (try clear c8); (try clear c12); (try clear c23); (try clear c27); (try clear c27b0); (try clear c28); (try clear c28b0); (try clear c29); (try clear c29b0); (try clear c29b1); (try clear c30); (try clear c30b0); (try clear c30b1); (try clear c31); (try clear c31b0); (try clear c31b1); (try clear q32); (try clear c33); (try clear c37); (try clear p37); (try clear q37); (try clear hx37); (try clear c38); (try clear q38); (try clear c39); (try clear p39); (try clear q39); (try clear hx39); (try clear qi39); (try clear c40); (try clear c42); (try clear c42b0); (try clear c42b1); (try clear c42b2); (try clear c44); (try clear c47); (try clear c50); (try clear c51); (try clear c51b0); (try clear c51b1); (try clear c52); (try clear c52b0); (try clear c52b1); (try clear c53); (try clear c55); (try clear q55); (try clear hcz13_0); (try clear hcz13_1); (try clear hcz13_2); (try clear hcz13_3); (try clear hcz14_0); (try clear hcz14_1); (try clear hcz14_2); (try clear hcz14_3); (try clear hcz18_0); (try clear hcz18_1); (try clear hcz18_2); (try clear hcz18_3); (try clear hcz19_0); (try clear hcz19_1); (try clear hcz19_2); (try clear hcz19_3); (try clear hcz25_0); (try clear hcz25_1); (try clear hcz25_2); (try clear hcz25_3); (try clear hcz41_0); (try clear hcz41_1); (try clear hcz41_2); (try clear hcz41_3); (try clear hcz45_0); (try clear hcz45_1); (try clear hcz45_2); (try clear hcz45_3); (try clear hcz46_0); (try clear hcz46_1); (try clear hcz46_2); (try clear hcz46_3); (try clear hcz48_0); (try clear hcz48_1); (try clear hcz48_2); (try clear hcz48_3); (try clear hcz49_0); (try clear hcz49_1); (try clear hcz49_2); (try clear hcz49_3); (try clear hcz54_0); (try clear hcz54_1); (try clear hcz54_2); (try clear hcz54_3); (try clear hcz9_0); (try clear hcz9_1); (try clear hcz9_2); (try clear hcz9_3); (try clear hfz13_0); (try clear hfz13_1); (try clear hfz13_2); (try clear hfz13_3); (try clear hfz14_0); (try clear hfz14_1); (try clear hfz14_2); (try clear hfz14_3); (try clear hfz18_0); (try clear hfz18_1); (try clear hfz18_2); (try clear hfz18_3); (try clear hfz19_0); (try clear hfz19_1); (try clear hfz19_2); (try clear hfz19_3); (try clear hfz25_0); (try clear hfz25_1); (try clear hfz25_2); (try clear hfz25_3); (try clear hfz41_0); (try clear hfz41_1); (try clear hfz41_2); (try clear hfz41_3); (try clear hfz45_0); (try clear hfz45_1); (try clear hfz45_2); (try clear hfz45_3); (try clear hfz46_0); (try clear hfz46_1); (try clear hfz46_2); (try clear hfz46_3); (try clear hfz48_0); (try clear hfz48_1); (try clear hfz48_2); (try clear hfz48_3); (try clear hfz49_0); (try clear hfz49_1); (try clear hfz49_2); (try clear hfz49_3); (try clear hfz54_0); (try clear hfz54_1); (try clear hfz54_2); (try clear hfz54_3); (try clear hfz9_0); (try clear hfz9_1); (try clear hfz9_2); (try clear hfz9_3); (try clear hx376_0); (try clear hx376_1); (try clear hx376_2); (try clear hx376_3); (try clear hx394_0); (try clear p2); (try clear p3); (try clear p37); (try clear p376); (try clear p394); (try clear p6); (try clear q3); (try clear q32); (try clear q37); (try clear q376); (try clear q38); (try clear q39); (try clear q394); (try clear q55)
                  obtain ⟨x8_4, x9_4, x10_4, rfl, rfl, rfl, HA, HK4, HO_4, HO_7, HO_368001, HO_368002, HO_368003, HO_378001, HO_378002, HO_378003, BK367, BK377, HR376_1, HR376_2, HR376_3, HR394_0, HB⟩ := hrel
                  cases gk with
                  | zero => exact absurd HA.out (by simp [sennitlaw10_ZealEnds.l1])
                  | succ k4 =>
                   have H := HA.out
                   clear HA
                   simp only [sennitlaw10_ZealEnds.l1] at H
                   by_cases c56 : x10_4 < (y388.length : Int)
                   ·rw [if_pos c56] at H
                    have c56b0 : decide (x10_4 < (y388.length : Int)) = true := decide_eq_true c56
                    clear c56
                    by_cases c57 : 0 ≤ x10_4
                    ·rw [if_pos c57] at H
                     have c57b0 : decide (0 ≤ x10_4) = true := decide_eq_true c57
                     clear c57
                     by_cases c58 : x8_4 = true
                     ·subst c58
                      have H1 : (if ((rd_L1 y388 x10_4).length : Int) > 0 then (if 0 < ((rd_L1 y388 x10_4).length : Int) then (if 0 < (y395.length : Int) then (if x9_4 = true then (if 0 ≤ (wrap64 (((rd_L1 y388 x10_4).length : Int) - 1)) then (if (wrap64 (((rd_L1 y388 x10_4).length : Int) - 1)) < ((rd_L1 y388 x10_4).length : Int) then (if 0 ≤ (wrap64 ((y395.length : Int) - 1)) then (if (wrap64 ((y395.length : Int) - 1)) < (y395.length : Int) then (sennitlaw10_ZealEnds.l1 k4 t368 t373 x5_2 y395 ((rdOf ByteArray.empty (rd_L1 y388 x10_4) 0).toList == (rdOf ByteArray.empty y395 0).toList) ((rdOf ByteArray.empty (rd_L1 y388 x10_4) (wrap64 (((rd_L1 y388 x10_4).length : Int) - 1))).toList == (rdOf ByteArray.empty y395 (wrap64 ((y395.length : Int) - 1))).toList) (wrap64 (x10_4 + 1)) a0_0 l0_1 l0_2 l0_3 true y378 y383 y388) else (none)) else (none)) else (none)) else (none)) else (sennitlaw10_ZealEnds.l1 k4 t368 t373 x5_2 y395 ((rdOf ByteArray.empty (rd_L1 y388 x10_4) 0).toList == (rdOf ByteArray.empty y395 0).toList) false (wrap64 (x10_4 + 1)) a0_0 l0_1 l0_2 l0_3 true y378 y383 y388)) else (none)) else (none)) else (if x9_4 = true then (sennitlaw10_ZealEnds.l1 k4 t368 t373 x5_2 y395 false false (wrap64 (x10_4 + 1)) a0_0 l0_1 l0_2 l0_3 true y378 y383 y388) else (sennitlaw10_ZealEnds.l1 k4 t368 t373 x5_2 y395 false false (wrap64 (x10_4 + 1)) a0_0 l0_1 l0_2 l0_3 true y378 y383 y388))) = some r := by rw [if_pos rfl] at H; exact H
                      clear H
                      have H := H1
                      clear H1
                      by_cases c59 : ((rd_L1 y388 x10_4).length : Int) > 0
                      ·rw [if_pos c59] at H
                       have c59b0 : decide (0 < ((rd_L1 y388 x10_4).length : Int)) = true := decide_eq_true c59
                       have c59b1 : decide (0 < (rd_L1 y388 x10_4).length) = true := decide_eq_true (by omega)
                       clear c59
                       by_cases c60 : 0 < ((rd_L1 y388 x10_4).length : Int)
                       ·rw [if_pos c60] at H
                        have c60b0 : decide (0 < ((rd_L1 y388 x10_4).length : Int)) = true := decide_eq_true c60
                        have c60b1 : decide (0 < (rd_L1 y388 x10_4).length) = true := decide_eq_true (by omega)
                        clear c60
                        by_cases c61 : 0 < (y395.length : Int)
                        ·rw [if_pos c61] at H
                         have c61b0 : decide (0 < (y395.length : Int)) = true := decide_eq_true c61
                         have c61b1 : decide (0 < y395.length) = true := decide_eq_true (by omega)
                         clear c61
                         by_cases c62 : x9_4 = true
                         ·subst c62
                          have H1 : (if 0 ≤ (wrap64 (((rd_L1 y388 x10_4).length : Int) - 1)) then (if (wrap64 (((rd_L1 y388 x10_4).length : Int) - 1)) < ((rd_L1 y388 x10_4).length : Int) then (if 0 ≤ (wrap64 ((y395.length : Int) - 1)) then (if (wrap64 ((y395.length : Int) - 1)) < (y395.length : Int) then (sennitlaw10_ZealEnds.l1 k4 t368 t373 x5_2 y395 ((rdOf ByteArray.empty (rd_L1 y388 x10_4) 0).toList == (rdOf ByteArray.empty y395 0).toList) ((rdOf ByteArray.empty (rd_L1 y388 x10_4) (wrap64 (((rd_L1 y388 x10_4).length : Int) - 1))).toList == (rdOf ByteArray.empty y395 (wrap64 ((y395.length : Int) - 1))).toList) (wrap64 (x10_4 + 1)) a0_0 l0_1 l0_2 l0_3 true y378 y383 y388) else (none)) else (none)) else (none)) else (none)) = some r := by rw [if_pos rfl] at H; exact H
                          clear H
                          have H := H1
                          clear H1
                          obtain ⟨ji63, hji63⟩ : ∃ j_ : Int, (wrap64 (((rd_L1 y388 x10_4).length : Int) - 1)) = j_ := ⟨_, rfl⟩
                          replace H : (if 0 ≤ (ji63) then (if (ji63) < ((rd_L1 y388 x10_4).length : Int) then (if 0 ≤ (wrap64 ((y395.length : Int) - 1)) then (if (wrap64 ((y395.length : Int) - 1)) < (y395.length : Int) then (sennitlaw10_ZealEnds.l1 k4 t368 t373 x5_2 y395 ((rdOf ByteArray.empty (rd_L1 y388 x10_4) 0).toList == (rdOf ByteArray.empty y395 0).toList) ((rdOf ByteArray.empty (rd_L1 y388 x10_4) (ji63)).toList == (rdOf ByteArray.empty y395 (wrap64 ((y395.length : Int) - 1))).toList) (wrap64 (x10_4 + 1)) a0_0 l0_1 l0_2 l0_3 true y378 y383 y388) else (none)) else (none)) else (none)) else (none)) = some r := by first | (rw [hji63] at H; exact H) | (simp only [hji63] at H ⊢; exact H)
                          have hji63w : (IntKind.i64.wrap (((rd_L1 y388 x10_4).length : Int) - 1)) = ji63 := (i64_w _).trans hji63
                          by_cases c64 : 0 ≤ (ji63)
                          ·rw [if_pos c64] at H
                           have c64b0 : decide (0 ≤ (ji63)) = true := decide_eq_true c64
                           clear c64
                           by_cases c65 : (ji63) < ((rd_L1 y388 x10_4).length : Int)
                           ·rw [if_pos c65] at H
                            have c65b0 : decide ((ji63) < ((rd_L1 y388 x10_4).length : Int)) = true := decide_eq_true c65
                            clear c65
                            obtain ⟨ji66, hji66⟩ : ∃ j_ : Int, (wrap64 ((y395.length : Int) - 1)) = j_ := ⟨_, rfl⟩
                            replace H : (if 0 ≤ (ji66) then (if (ji66) < (y395.length : Int) then (sennitlaw10_ZealEnds.l1 k4 t368 t373 x5_2 y395 ((rdOf ByteArray.empty (rd_L1 y388 x10_4) 0).toList == (rdOf ByteArray.empty y395 0).toList) ((rdOf ByteArray.empty (rd_L1 y388 x10_4) (ji63)).toList == (rdOf ByteArray.empty y395 (ji66)).toList) (wrap64 (x10_4 + 1)) a0_0 l0_1 l0_2 l0_3 true y378 y383 y388) else (none)) else (none)) = some r := by first | (rw [hji66] at H; exact H) | (simp only [hji66] at H ⊢; exact H)
                            have hji66w : (IntKind.i64.wrap ((y395.length : Int) - 1)) = ji66 := (i64_w _).trans hji66
                            by_cases c67 : 0 ≤ (ji66)
                            ·rw [if_pos c67] at H
                             have c67b0 : decide (0 ≤ (ji66)) = true := decide_eq_true c67
                             clear c67
                             by_cases c68 : (ji66) < (y395.length : Int)
                             ·rw [if_pos c68] at H
                              have c68b0 : decide ((ji66) < (y395.length : Int)) = true := decide_eq_true c68
                              clear c68
                              have H' := am H
                              clear H
                              have hnb69 := NB377_367.out
                              have hnc69 := NB367_377.out
                              have hcz70_0 : wr.cell? ⟨gb377, 0, none⟩ = some (.bool true) := (blk_cell BK377.out 0).trans rfl
                              have hcz70_1 : wr.cell? ⟨gb377, 1, none⟩ = some (.slice A37 y378.length c37) := (blk_cell BK377.out 1).trans rfl
                              have hcz70_2 : wr.cell? ⟨gb377, 2, none⟩ = some (.slice A38 y383.length c38) := (blk_cell BK377.out 2).trans rfl
                              have hcz70_3 : wr.cell? ⟨gb377, 3, none⟩ = some (.slice (some ad394) y388.length c39) := (blk_cell BK377.out 3).trans rfl
                              have hfz70_0 := blk_frozen BK377.out 0
                              have hfz70_1 := blk_frozen BK377.out 1
                              have hfz70_2 := blk_frozen BK377.out 2
                              have hfz70_3 := blk_frozen BK377.out 3
                              have p400 : 0 ≤ (x10_4 : Int) := of_decide_eq_true (by first | (with_reducible assumption) | assumption)
                              have q400 : x10_4 < (y388.length : Int) := of_decide_eq_true (by first | (with_reducible assumption) | assumption)
                              obtain ⟨ad400, A400_0, c400_0, e400, hx400_0, hl400_0, hi400_0⟩ := at_L1 (Kd.V_reads' HO_378003.out).2.2 x10_4 p400 q400
                              obtain rfl : ad394 = ad400 := (by injection e400)
                              obtain ⟨ce400, hce400, hMe400, hcc400⟩ := Kd.V_get HO_378003.out [] x10_4 p400 (by first | exact q400 | exact of_decide_eq_true (by first | (with_reducible assumption) | assumption) | (have e_ := (Kd.V_reads' HO_378003.out).1; omega))
                              obtain ⟨ua400_0, uc400_0, rfl, ul400_0, ge400_0⟩ := Kd.FK_slice_open hMe400
                              have hv400_0 := hcc400 0 _ rfl
                              rw [Nat.add_zero, show ((Kd.slice 9 Kd.string)).sz = 1 from rfl, Nat.mul_one] at hv400_0
                              replace hv400_0 := Option.some.inj (hv400_0.symm.trans hx400_0)
                              injection hv400_0 with hva_ hvn_ hvc_
                              rw [hva_] at ge400_0
                              rw [hvc_] at ul400_0
                              have HL400_0 := am (show Kd.V Kd.string 9 _ w.heap.size _ _ (rd_L1 y388 x10_4) from Kd.V_mk ul400_0 ge400_0)
                              clear hva_ hvn_ hvc_ ge400_0 ul400_0
                              clear hcc400 hce400
                              have HR400_0 := am hi400_0
                              have HC400_0 := am hl400_0
                              clear hi400_0 hl400_0
                              replace p400 := eq_true p400
                              replace q400 := eq_true q400
                              have p401 : 0 ≤ (0 : Int) := (by omega)
                              have q401 : 0 < ((rd_L1 y388 x10_4).length : Int) := of_decide_eq_true (by first | (with_reducible assumption) | assumption)
                              obtain ⟨ad401, e401, hx401_0⟩ := Kd.at_string (by repeat (first | (with_reducible exact HR400_0.out) | (with_reducible refine Kd.C_alloc ?_ _) | (with_reducible refine Kd.C_drewN ?_ _) | (with_reducible refine Kd.C_drew ?_) | exact HR400_0.out)) 0 p401 q401
                              cases e401
                              have qi401 : (0 < (rd_L1 y388 x10_4).length) = True := eq_true (by omega)
                              (try rw [show ((0 : Int)).toNat = 0 from rfl] at hx401_0)
                              (try rw [Addr.add_zero'] at hx401_0)
                              replace p401 := eq_true p401
                              replace q401 := eq_true q401
                              have p402 : 0 ≤ (0 : Int) := (by omega)
                              have q402 : 0 < (y395.length : Int) := of_decide_eq_true (by first | (with_reducible assumption) | assumption)
                              obtain ⟨ad402, e402, hx402_0⟩ := Kd.at_string (Kd.V_reads' HO_7.out).2.2 0 p402 q402
                              cases e402
                              have qi402 : (0 < y395.length) = True := eq_true (by omega)
                              (try rw [show ((0 : Int)).toNat = 0 from rfl] at hx402_0)
                              (try rw [Addr.add_zero'] at hx402_0)
                              replace p402 := eq_true p402
                              replace q402 := eq_true q402
                              have p403 : 0 ≤ ((ji63) : Int) := of_decide_eq_true (by first | (with_reducible assumption) | assumption)
                              have q403 : (ji63) < ((rd_L1 y388 x10_4).length : Int) := of_decide_eq_true (by first | (with_reducible assumption) | assumption)
                              obtain ⟨ad403, e403, hx403_0⟩ := Kd.at_string (by repeat (first | (with_reducible exact HR400_0.out) | (with_reducible refine Kd.C_alloc ?_ _) | (with_reducible refine Kd.C_drewN ?_ _) | (with_reducible refine Kd.C_drew ?_) | exact HR400_0.out)) (ji63) p403 q403
                              obtain rfl : ad401 = ad403 := (by injection e403)
                              replace p403 := eq_true p403
                              replace q403 := eq_true q403
                              have p404 : 0 ≤ ((ji66) : Int) := of_decide_eq_true (by first | (with_reducible assumption) | assumption)
                              have q404 : (ji66) < (y395.length : Int) := of_decide_eq_true (by first | (with_reducible assumption) | assumption)
                              obtain ⟨ad404, e404, hx404_0⟩ := Kd.at_string (Kd.V_reads' HO_7.out).2.2 (ji66) p404 q404
                              obtain rfl : ad402 = ad404 := (by injection e404)
                              replace p404 := eq_true p404
                              replace q404 := eq_true q404
                              go_wp2
                              repeat (go_quiet (fail); try go_wp2)
                              go_roundg k4
                              case measure => have := HJ2.out; have := HK2.out; have := HJ33.out; have := HK4.out; omega
                              case rel => exact ⟨(((rdOf ByteArray.empty (rd_L1 y388 x10_4) 0).toList == (rdOf ByteArray.empty y395 0).toList)), (((rdOf ByteArray.empty (rd_L1 y388 x10_4) (ji63)).toList == (rdOf ByteArray.empty y395 (ji66)).toList)), (wrap64 (x10_4 + 1)), (by first | rfl | (simp; done) | (simp [*]; done)), (by first | rfl | (simp; done) | (simp only [← hji63, ← hji66] <;> (first | rfl | simp)) | (simp [*]; done)), (by first | rfl | (simp; done) | (simp [*]; done)), H', ⟨by have := HJ2.out; have := HK2.out; have := HJ33.out; have := HK4.out; omega⟩, ⟨by (with_reducible repeat (first | apply nA | apply nN | apply nD)); exact HO_4.out⟩, ⟨by (with_reducible repeat (first | apply vA | apply vN | apply vD)); exact HO_7.out⟩, ⟨by (with_reducible repeat (first | apply vA | apply vN | apply vD)); exact HO_368001.out⟩, ⟨by (with_reducible repeat (first | apply vA | apply vN | apply vD)); exact HO_368002.out⟩, ⟨by (with_reducible repeat (first | apply vA | apply vN | apply vD)); exact HO_368003.out⟩, ⟨by (with_reducible repeat (first | apply vA | apply vN | apply vD)); exact HO_378001.out⟩, ⟨by (with_reducible repeat (first | apply vA | apply vN | apply vD)); exact HO_378002.out⟩, ⟨by (with_reducible repeat (first | apply vA | apply vN | apply vD)); exact HO_378003.out⟩, ⟨by (with_reducible repeat (first | refine blk_drewN ?_ _ | refine blk_drew ?_ | refine blk_alloc ?_ _)); exact BK367.out⟩, ⟨by (with_reducible repeat (first | refine blk_drewN ?_ _ | refine blk_drew ?_ | refine blk_alloc ?_ _)); exact BK377.out⟩, ⟨by repeat (first | (with_reducible exact HR376_1.out) | (with_reducible refine Kd.C_alloc ?_ _) | (with_reducible refine Kd.C_drewN ?_ _) | (with_reducible refine Kd.C_drew ?_) | exact HR376_1.out)⟩, ⟨by repeat (first | (with_reducible exact HR376_2.out) | (with_reducible refine Kd.C_alloc ?_ _) | (with_reducible refine Kd.C_drewN ?_ _) | (with_reducible refine Kd.C_drew ?_) | exact HR376_2.out)⟩, ⟨by repeat (first | (with_reducible exact HR376_3.out) | (with_reducible refine Kd.C_alloc ?_ _) | (with_reducible refine Kd.C_drewN ?_ _) | (with_reducible refine Kd.C_drew ?_) | exact HR376_3.out)⟩, ⟨by repeat (first | (with_reducible exact HR394_0.out) | (with_reducible refine Kd.C_alloc ?_ _) | (with_reducible refine Kd.C_drewN ?_ _) | (with_reducible refine Kd.C_drew ?_) | exact HR394_0.out)⟩, ⟨by repeat (first | (with_reducible first | exact HB.out | apply below_alloc | apply pw_below_drewN | apply below_drew1 | refine below_set ?_ GE367.out | refine below_set ?_ GE377.out) | exact HB.out)⟩⟩
                             ·rw [if_neg c68] at H
                              exact absurd H (by simp)
                            ·rw [if_neg c67] at H
                             exact absurd H (by simp)
                           ·rw [if_neg c65] at H
                            exact absurd H (by simp)
                          ·rw [if_neg c64] at H
                           exact absurd H (by simp)
                         ·replace c62 := Bool.eq_false_iff.mpr c62
                          subst c62
                          have H1 : (sennitlaw10_ZealEnds.l1 k4 t368 t373 x5_2 y395 ((rdOf ByteArray.empty (rd_L1 y388 x10_4) 0).toList == (rdOf ByteArray.empty y395 0).toList) false (wrap64 (x10_4 + 1)) a0_0 l0_1 l0_2 l0_3 true y378 y383 y388) = some r := by rw [if_neg (show ¬ (false = true) by decide)] at H; exact H
                          clear H
                          have H := H1
                          clear H1
                          have H' := am H
                          clear H
                          have hnb71 := NB377_367.out
                          have hnc71 := NB367_377.out
                          have hcz72_0 : wr.cell? ⟨gb377, 0, none⟩ = some (.bool true) := (blk_cell BK377.out 0).trans rfl
                          have hcz72_1 : wr.cell? ⟨gb377, 1, none⟩ = some (.slice A37 y378.length c37) := (blk_cell BK377.out 1).trans rfl
                          have hcz72_2 : wr.cell? ⟨gb377, 2, none⟩ = some (.slice A38 y383.length c38) := (blk_cell BK377.out 2).trans rfl
                          have hcz72_3 : wr.cell? ⟨gb377, 3, none⟩ = some (.slice (some ad394) y388.length c39) := (blk_cell BK377.out 3).trans rfl
                          have hfz72_0 := blk_frozen BK377.out 0
                          have hfz72_1 := blk_frozen BK377.out 1
                          have hfz72_2 := blk_frozen BK377.out 2
                          have hfz72_3 := blk_frozen BK377.out 3
                          have p400 : 0 ≤ (x10_4 : Int) := of_decide_eq_true (by first | (with_reducible assumption) | assumption)
                          have q400 : x10_4 < (y388.length : Int) := of_decide_eq_true (by first | (with_reducible assumption) | assumption)
                          obtain ⟨ad400, A400_0, c400_0, e400, hx400_0, hl400_0, hi400_0⟩ := at_L1 (Kd.V_reads' HO_378003.out).2.2 x10_4 p400 q400
                          obtain rfl : ad394 = ad400 := (by injection e400)
                          obtain ⟨ce400, hce400, hMe400, hcc400⟩ := Kd.V_get HO_378003.out [] x10_4 p400 (by first | exact q400 | exact of_decide_eq_true (by first | (with_reducible assumption) | assumption) | (have e_ := (Kd.V_reads' HO_378003.out).1; omega))
                          obtain ⟨ua400_0, uc400_0, rfl, ul400_0, ge400_0⟩ := Kd.FK_slice_open hMe400
                          have hv400_0 := hcc400 0 _ rfl
                          rw [Nat.add_zero, show ((Kd.slice 9 Kd.string)).sz = 1 from rfl, Nat.mul_one] at hv400_0
                          replace hv400_0 := Option.some.inj (hv400_0.symm.trans hx400_0)
                          injection hv400_0 with hva_ hvn_ hvc_
                          rw [hva_] at ge400_0
                          rw [hvc_] at ul400_0
                          have HL400_0 := am (show Kd.V Kd.string 9 _ w.heap.size _ _ (rd_L1 y388 x10_4) from Kd.V_mk ul400_0 ge400_0)
                          clear hva_ hvn_ hvc_ ge400_0 ul400_0
                          clear hcc400 hce400
                          have HR400_0 := am hi400_0
                          have HC400_0 := am hl400_0
                          clear hi400_0 hl400_0
                          replace p400 := eq_true p400
                          replace q400 := eq_true q400
                          have p401 : 0 ≤ (0 : Int) := (by omega)
                          have q401 : 0 < ((rd_L1 y388 x10_4).length : Int) := of_decide_eq_true (by first | (with_reducible assumption) | assumption)
                          obtain ⟨ad401, e401, hx401_0⟩ := Kd.at_string (by repeat (first | (with_reducible exact HR400_0.out) | (with_reducible refine Kd.C_alloc ?_ _) | (with_reducible refine Kd.C_drewN ?_ _) | (with_reducible refine Kd.C_drew ?_) | exact HR400_0.out)) 0 p401 q401
                          cases e401
                          have qi401 : (0 < (rd_L1 y388 x10_4).length) = True := eq_true (by omega)
                          (try rw [show ((0 : Int)).toNat = 0 from rfl] at hx401_0)
                          (try rw [Addr.add_zero'] at hx401_0)
                          replace p401 := eq_true p401
                          replace q401 := eq_true q401
                          have p402 : 0 ≤ (0 : Int) := (by omega)
                          have q402 : 0 < (y395.length : Int) := of_decide_eq_true (by first | (with_reducible assumption) | assumption)
                          obtain ⟨ad402, e402, hx402_0⟩ := Kd.at_string (Kd.V_reads' HO_7.out).2.2 0 p402 q402
                          cases e402
                          have qi402 : (0 < y395.length) = True := eq_true (by omega)
                          (try rw [show ((0 : Int)).toNat = 0 from rfl] at hx402_0)
                          (try rw [Addr.add_zero'] at hx402_0)
                          replace p402 := eq_true p402
                          replace q402 := eq_true q402
                          go_wp2
                          repeat (go_quiet (fail); try go_wp2)
                          go_roundg k4
                          case measure => have := HJ2.out; have := HK2.out; have := HJ33.out; have := HK4.out; omega
                          case rel => exact ⟨(((rdOf ByteArray.empty (rd_L1 y388 x10_4) 0).toList == (rdOf ByteArray.empty y395 0).toList)), (false), (wrap64 (x10_4 + 1)), (by first | rfl | (simp; done) | (simp [*]; done)), (by first | rfl | (simp; done) | (simp [*]; done)), (by first | rfl | (simp; done) | (simp [*]; done)), H', ⟨by have := HJ2.out; have := HK2.out; have := HJ33.out; have := HK4.out; omega⟩, ⟨by (with_reducible repeat (first | apply nA | apply nN | apply nD)); exact HO_4.out⟩, ⟨by (with_reducible repeat (first | apply vA | apply vN | apply vD)); exact HO_7.out⟩, ⟨by (with_reducible repeat (first | apply vA | apply vN | apply vD)); exact HO_368001.out⟩, ⟨by (with_reducible repeat (first | apply vA | apply vN | apply vD)); exact HO_368002.out⟩, ⟨by (with_reducible repeat (first | apply vA | apply vN | apply vD)); exact HO_368003.out⟩, ⟨by (with_reducible repeat (first | apply vA | apply vN | apply vD)); exact HO_378001.out⟩, ⟨by (with_reducible repeat (first | apply vA | apply vN | apply vD)); exact HO_378002.out⟩, ⟨by (with_reducible repeat (first | apply vA | apply vN | apply vD)); exact HO_378003.out⟩, ⟨by (with_reducible repeat (first | refine blk_drewN ?_ _ | refine blk_drew ?_ | refine blk_alloc ?_ _)); exact BK367.out⟩, ⟨by (with_reducible repeat (first | refine blk_drewN ?_ _ | refine blk_drew ?_ | refine blk_alloc ?_ _)); exact BK377.out⟩, ⟨by repeat (first | (with_reducible exact HR376_1.out) | (with_reducible refine Kd.C_alloc ?_ _) | (with_reducible refine Kd.C_drewN ?_ _) | (with_reducible refine Kd.C_drew ?_) | exact HR376_1.out)⟩, ⟨by repeat (first | (with_reducible exact HR376_2.out) | (with_reducible refine Kd.C_alloc ?_ _) | (with_reducible refine Kd.C_drewN ?_ _) | (with_reducible refine Kd.C_drew ?_) | exact HR376_2.out)⟩, ⟨by repeat (first | (with_reducible exact HR376_3.out) | (with_reducible refine Kd.C_alloc ?_ _) | (with_reducible refine Kd.C_drewN ?_ _) | (with_reducible refine Kd.C_drew ?_) | exact HR376_3.out)⟩, ⟨by repeat (first | (with_reducible exact HR394_0.out) | (with_reducible refine Kd.C_alloc ?_ _) | (with_reducible refine Kd.C_drewN ?_ _) | (with_reducible refine Kd.C_drew ?_) | exact HR394_0.out)⟩, ⟨by repeat (first | (with_reducible first | exact HB.out | apply below_alloc | apply pw_below_drewN | apply below_drew1 | refine below_set ?_ GE367.out | refine below_set ?_ GE377.out) | exact HB.out)⟩⟩
                        ·rw [if_neg c61] at H
                         exact absurd H (by simp)
                       ·rw [if_neg c60] at H
                        exact absurd H (by simp)
                      ·rw [if_neg c59] at H
                       have c59b0 : decide (0 < ((rd_L1 y388 x10_4).length : Int)) = false := decide_eq_false c59
                       have c59b1 : decide (0 < (rd_L1 y388 x10_4).length) = false := decide_eq_false (by omega)
                       clear c59
                       by_cases c73 : x9_4 = true
                       ·subst c73
                        have H1 : (sennitlaw10_ZealEnds.l1 k4 t368 t373 x5_2 y395 false false (wrap64 (x10_4 + 1)) a0_0 l0_1 l0_2 l0_3 true y378 y383 y388) = some r := by rw [if_pos rfl] at H; exact H
                        clear H
                        have H := H1
                        clear H1
                        have H' := am H
                        clear H
                        have hnb74 := NB377_367.out
                        have hnc74 := NB367_377.out
                        have hcz75_0 : wr.cell? ⟨gb377, 0, none⟩ = some (.bool true) := (blk_cell BK377.out 0).trans rfl
                        have hcz75_1 : wr.cell? ⟨gb377, 1, none⟩ = some (.slice A37 y378.length c37) := (blk_cell BK377.out 1).trans rfl
                        have hcz75_2 : wr.cell? ⟨gb377, 2, none⟩ = some (.slice A38 y383.length c38) := (blk_cell BK377.out 2).trans rfl
                        have hcz75_3 : wr.cell? ⟨gb377, 3, none⟩ = some (.slice (some ad394) y388.length c39) := (blk_cell BK377.out 3).trans rfl
                        have hfz75_0 := blk_frozen BK377.out 0
                        have hfz75_1 := blk_frozen BK377.out 1
                        have hfz75_2 := blk_frozen BK377.out 2
                        have hfz75_3 := blk_frozen BK377.out 3
                        have p400 : 0 ≤ (x10_4 : Int) := of_decide_eq_true (by first | (with_reducible assumption) | assumption)
                        have q400 : x10_4 < (y388.length : Int) := of_decide_eq_true (by first | (with_reducible assumption) | assumption)
                        obtain ⟨ad400, A400_0, c400_0, e400, hx400_0, hl400_0, hi400_0⟩ := at_L1 (Kd.V_reads' HO_378003.out).2.2 x10_4 p400 q400
                        obtain rfl : ad394 = ad400 := (by injection e400)
                        obtain ⟨ce400, hce400, hMe400, hcc400⟩ := Kd.V_get HO_378003.out [] x10_4 p400 (by first | exact q400 | exact of_decide_eq_true (by first | (with_reducible assumption) | assumption) | (have e_ := (Kd.V_reads' HO_378003.out).1; omega))
                        obtain ⟨ua400_0, uc400_0, rfl, ul400_0, ge400_0⟩ := Kd.FK_slice_open hMe400
                        have hv400_0 := hcc400 0 _ rfl
                        rw [Nat.add_zero, show ((Kd.slice 9 Kd.string)).sz = 1 from rfl, Nat.mul_one] at hv400_0
                        replace hv400_0 := Option.some.inj (hv400_0.symm.trans hx400_0)
                        injection hv400_0 with hva_ hvn_ hvc_
                        rw [hva_] at ge400_0
                        rw [hvc_] at ul400_0
                        have HL400_0 := am (show Kd.V Kd.string 9 _ w.heap.size _ _ (rd_L1 y388 x10_4) from Kd.V_mk ul400_0 ge400_0)
                        clear hva_ hvn_ hvc_ ge400_0 ul400_0
                        clear hcc400 hce400
                        have HR400_0 := am hi400_0
                        have HC400_0 := am hl400_0
                        clear hi400_0 hl400_0
                        replace p400 := eq_true p400
                        replace q400 := eq_true q400
                        go_wp2
                        repeat (go_quiet (fail); try go_wp2)
                        go_roundg k4
                        case measure => have := HJ2.out; have := HK2.out; have := HJ33.out; have := HK4.out; omega
                        case rel => exact ⟨(false), (false), (wrap64 (x10_4 + 1)), (by first | rfl | (simp; done) | (simp [*]; done)), (by first | rfl | (simp; done) | (simp [*]; done)), (by first | rfl | (simp; done) | (simp [*]; done)), H', ⟨by have := HJ2.out; have := HK2.out; have := HJ33.out; have := HK4.out; omega⟩, ⟨by (with_reducible repeat (first | apply nA | apply nN | apply nD)); exact HO_4.out⟩, ⟨by (with_reducible repeat (first | apply vA | apply vN | apply vD)); exact HO_7.out⟩, ⟨by (with_reducible repeat (first | apply vA | apply vN | apply vD)); exact HO_368001.out⟩, ⟨by (with_reducible repeat (first | apply vA | apply vN | apply vD)); exact HO_368002.out⟩, ⟨by (with_reducible repeat (first | apply vA | apply vN | apply vD)); exact HO_368003.out⟩, ⟨by (with_reducible repeat (first | apply vA | apply vN | apply vD)); exact HO_378001.out⟩, ⟨by (with_reducible repeat (first | apply vA | apply vN | apply vD)); exact HO_378002.out⟩, ⟨by (with_reducible repeat (first | apply vA | apply vN | apply vD)); exact HO_378003.out⟩, ⟨by (with_reducible repeat (first | refine blk_drewN ?_ _ | refine blk_drew ?_ | refine blk_alloc ?_ _)); exact BK367.out⟩, ⟨by (with_reducible repeat (first | refine blk_drewN ?_ _ | refine blk_drew ?_ | refine blk_alloc ?_ _)); exact BK377.out⟩, ⟨by repeat (first | (with_reducible exact HR376_1.out) | (with_reducible refine Kd.C_alloc ?_ _) | (with_reducible refine Kd.C_drewN ?_ _) | (with_reducible refine Kd.C_drew ?_) | exact HR376_1.out)⟩, ⟨by repeat (first | (with_reducible exact HR376_2.out) | (with_reducible refine Kd.C_alloc ?_ _) | (with_reducible refine Kd.C_drewN ?_ _) | (with_reducible refine Kd.C_drew ?_) | exact HR376_2.out)⟩, ⟨by repeat (first | (with_reducible exact HR376_3.out) | (with_reducible refine Kd.C_alloc ?_ _) | (with_reducible refine Kd.C_drewN ?_ _) | (with_reducible refine Kd.C_drew ?_) | exact HR376_3.out)⟩, ⟨by repeat (first | (with_reducible exact HR394_0.out) | (with_reducible refine Kd.C_alloc ?_ _) | (with_reducible refine Kd.C_drewN ?_ _) | (with_reducible refine Kd.C_drew ?_) | exact HR394_0.out)⟩, ⟨by repeat (first | (with_reducible first | exact HB.out | apply below_alloc | apply pw_below_drewN | apply below_drew1 | refine below_set ?_ GE367.out | refine below_set ?_ GE377.out) | exact HB.out)⟩⟩
                       ·replace c73 := Bool.eq_false_iff.mpr c73
                        subst c73
                        have H1 : (sennitlaw10_ZealEnds.l1 k4 t368 t373 x5_2 y395 false false (wrap64 (x10_4 + 1)) a0_0 l0_1 l0_2 l0_3 true y378 y383 y388) = some r := by rw [if_neg (show ¬ (false = true) by decide)] at H; exact H
                        clear H
                        have H := H1
                        clear H1
                        have H' := am H
                        clear H
                        have hnb76 := NB377_367.out
                        have hnc76 := NB367_377.out
                        have hcz77_0 : wr.cell? ⟨gb377, 0, none⟩ = some (.bool true) := (blk_cell BK377.out 0).trans rfl
                        have hcz77_1 : wr.cell? ⟨gb377, 1, none⟩ = some (.slice A37 y378.length c37) := (blk_cell BK377.out 1).trans rfl
                        have hcz77_2 : wr.cell? ⟨gb377, 2, none⟩ = some (.slice A38 y383.length c38) := (blk_cell BK377.out 2).trans rfl
                        have hcz77_3 : wr.cell? ⟨gb377, 3, none⟩ = some (.slice (some ad394) y388.length c39) := (blk_cell BK377.out 3).trans rfl
                        have hfz77_0 := blk_frozen BK377.out 0
                        have hfz77_1 := blk_frozen BK377.out 1
                        have hfz77_2 := blk_frozen BK377.out 2
                        have hfz77_3 := blk_frozen BK377.out 3
                        have p400 : 0 ≤ (x10_4 : Int) := of_decide_eq_true (by first | (with_reducible assumption) | assumption)
                        have q400 : x10_4 < (y388.length : Int) := of_decide_eq_true (by first | (with_reducible assumption) | assumption)
                        obtain ⟨ad400, A400_0, c400_0, e400, hx400_0, hl400_0, hi400_0⟩ := at_L1 (Kd.V_reads' HO_378003.out).2.2 x10_4 p400 q400
                        obtain rfl : ad394 = ad400 := (by injection e400)
                        obtain ⟨ce400, hce400, hMe400, hcc400⟩ := Kd.V_get HO_378003.out [] x10_4 p400 (by first | exact q400 | exact of_decide_eq_true (by first | (with_reducible assumption) | assumption) | (have e_ := (Kd.V_reads' HO_378003.out).1; omega))
                        obtain ⟨ua400_0, uc400_0, rfl, ul400_0, ge400_0⟩ := Kd.FK_slice_open hMe400
                        have hv400_0 := hcc400 0 _ rfl
                        rw [Nat.add_zero, show ((Kd.slice 9 Kd.string)).sz = 1 from rfl, Nat.mul_one] at hv400_0
                        replace hv400_0 := Option.some.inj (hv400_0.symm.trans hx400_0)
                        injection hv400_0 with hva_ hvn_ hvc_
                        rw [hva_] at ge400_0
                        rw [hvc_] at ul400_0
                        have HL400_0 := am (show Kd.V Kd.string 9 _ w.heap.size _ _ (rd_L1 y388 x10_4) from Kd.V_mk ul400_0 ge400_0)
                        clear hva_ hvn_ hvc_ ge400_0 ul400_0
                        clear hcc400 hce400
                        have HR400_0 := am hi400_0
                        have HC400_0 := am hl400_0
                        clear hi400_0 hl400_0
                        replace p400 := eq_true p400
                        replace q400 := eq_true q400
                        go_wp2
                        repeat (go_quiet (fail); try go_wp2)
                        go_roundg k4
                        case measure => have := HJ2.out; have := HK2.out; have := HJ33.out; have := HK4.out; omega
                        case rel => exact ⟨(false), (false), (wrap64 (x10_4 + 1)), (by first | rfl | (simp; done) | (simp [*]; done)), (by first | rfl | (simp; done) | (simp [*]; done)), (by first | rfl | (simp; done) | (simp [*]; done)), H', ⟨by have := HJ2.out; have := HK2.out; have := HJ33.out; have := HK4.out; omega⟩, ⟨by (with_reducible repeat (first | apply nA | apply nN | apply nD)); exact HO_4.out⟩, ⟨by (with_reducible repeat (first | apply vA | apply vN | apply vD)); exact HO_7.out⟩, ⟨by (with_reducible repeat (first | apply vA | apply vN | apply vD)); exact HO_368001.out⟩, ⟨by (with_reducible repeat (first | apply vA | apply vN | apply vD)); exact HO_368002.out⟩, ⟨by (with_reducible repeat (first | apply vA | apply vN | apply vD)); exact HO_368003.out⟩, ⟨by (with_reducible repeat (first | apply vA | apply vN | apply vD)); exact HO_378001.out⟩, ⟨by (with_reducible repeat (first | apply vA | apply vN | apply vD)); exact HO_378002.out⟩, ⟨by (with_reducible repeat (first | apply vA | apply vN | apply vD)); exact HO_378003.out⟩, ⟨by (with_reducible repeat (first | refine blk_drewN ?_ _ | refine blk_drew ?_ | refine blk_alloc ?_ _)); exact BK367.out⟩, ⟨by (with_reducible repeat (first | refine blk_drewN ?_ _ | refine blk_drew ?_ | refine blk_alloc ?_ _)); exact BK377.out⟩, ⟨by repeat (first | (with_reducible exact HR376_1.out) | (with_reducible refine Kd.C_alloc ?_ _) | (with_reducible refine Kd.C_drewN ?_ _) | (with_reducible refine Kd.C_drew ?_) | exact HR376_1.out)⟩, ⟨by repeat (first | (with_reducible exact HR376_2.out) | (with_reducible refine Kd.C_alloc ?_ _) | (with_reducible refine Kd.C_drewN ?_ _) | (with_reducible refine Kd.C_drew ?_) | exact HR376_2.out)⟩, ⟨by repeat (first | (with_reducible exact HR376_3.out) | (with_reducible refine Kd.C_alloc ?_ _) | (with_reducible refine Kd.C_drewN ?_ _) | (with_reducible refine Kd.C_drew ?_) | exact HR376_3.out)⟩, ⟨by repeat (first | (with_reducible exact HR394_0.out) | (with_reducible refine Kd.C_alloc ?_ _) | (with_reducible refine Kd.C_drewN ?_ _) | (with_reducible refine Kd.C_drew ?_) | exact HR394_0.out)⟩, ⟨by repeat (first | (with_reducible first | exact HB.out | apply below_alloc | apply pw_below_drewN | apply below_drew1 | refine below_set ?_ GE367.out | refine below_set ?_ GE377.out) | exact HB.out)⟩⟩
                     ·replace c58 := Bool.eq_false_iff.mpr c58
                      subst c58
                      have H1 : (if x9_4 = true then (if ((rd_L1 y388 x10_4).length : Int) > 0 then (if 0 ≤ (wrap64 (((rd_L1 y388 x10_4).length : Int) - 1)) then (if (wrap64 (((rd_L1 y388 x10_4).length : Int) - 1)) < ((rd_L1 y388 x10_4).length : Int) then (if 0 ≤ (wrap64 ((y395.length : Int) - 1)) then (if (wrap64 ((y395.length : Int) - 1)) < (y395.length : Int) then (sennitlaw10_ZealEnds.l1 k4 t368 t373 x5_2 y395 false ((rdOf ByteArray.empty (rd_L1 y388 x10_4) (wrap64 (((rd_L1 y388 x10_4).length : Int) - 1))).toList == (rdOf ByteArray.empty y395 (wrap64 ((y395.length : Int) - 1))).toList) (wrap64 (x10_4 + 1)) a0_0 l0_1 l0_2 l0_3 true y378 y383 y388) else (none)) else (none)) else (none)) else (none)) else (sennitlaw10_ZealEnds.l1 k4 t368 t373 x5_2 y395 false false (wrap64 (x10_4 + 1)) a0_0 l0_1 l0_2 l0_3 true y378 y383 y388)) else (sennitlaw10_ZealEnds.l1 k4 t368 t373 x5_2 y395 false false (wrap64 (x10_4 + 1)) a0_0 l0_1 l0_2 l0_3 true y378 y383 y388)) = some r := by rw [if_neg (show ¬ (false = true) by decide)] at H; exact H
                      clear H
                      have H := H1
                      clear H1
                      by_cases c78 : x9_4 = true
                      ·subst c78
                       have H1 : (if ((rd_L1 y388 x10_4).length : Int) > 0 then (if 0 ≤ (wrap64 (((rd_L1 y388 x10_4).length : Int) - 1)) then (if (wrap64 (((rd_L1 y388 x10_4).length : Int) - 1)) < ((rd_L1 y388 x10_4).length : Int) then (if 0 ≤ (wrap64 ((y395.length : Int) - 1)) then (if (wrap64 ((y395.length : Int) - 1)) < (y395.length : Int) then (sennitlaw10_ZealEnds.l1 k4 t368 t373 x5_2 y395 false ((rdOf ByteArray.empty (rd_L1 y388 x10_4) (wrap64 (((rd_L1 y388 x10_4).length : Int) - 1))).toList == (rdOf ByteArray.empty y395 (wrap64 ((y395.length : Int) - 1))).toList) (wrap64 (x10_4 + 1)) a0_0 l0_1 l0_2 l0_3 true y378 y383 y388) else (none)) else (none)) else (none)) else (none)) else (sennitlaw10_ZealEnds.l1 k4 t368 t373 x5_2 y395 false false (wrap64 (x10_4 + 1)) a0_0 l0_1 l0_2 l0_3 true y378 y383 y388)) = some r := by rw [if_pos rfl] at H; exact H
                       clear H
                       have H := H1
                       clear H1
                       by_cases c79 : ((rd_L1 y388 x10_4).length : Int) > 0
                       ·rw [if_pos c79] at H
                        have c79b0 : decide (0 < ((rd_L1 y388 x10_4).length : Int)) = true := decide_eq_true c79
                        have c79b1 : decide (0 < (rd_L1 y388 x10_4).length) = true := decide_eq_true (by omega)
                        clear c79
                        obtain ⟨ji80, hji80⟩ : ∃ j_ : Int, (wrap64 (((rd_L1 y388 x10_4).length : Int) - 1)) = j_ := ⟨_, rfl⟩
                        replace H : (if 0 ≤ (ji80) then (if (ji80) < ((rd_L1 y388 x10_4).length : Int) then (if 0 ≤ (wrap64 ((y395.length : Int) - 1)) then (if (wrap64 ((y395.length : Int) - 1)) < (y395.length : Int) then (sennitlaw10_ZealEnds.l1 k4 t368 t373 x5_2 y395 false ((rdOf ByteArray.empty (rd_L1 y388 x10_4) (ji80)).toList == (rdOf ByteArray.empty y395 (wrap64 ((y395.length : Int) - 1))).toList) (wrap64 (x10_4 + 1)) a0_0 l0_1 l0_2 l0_3 true y378 y383 y388) else (none)) else (none)) else (none)) else (none)) = some r := by first | (rw [hji80] at H; exact H) | (simp only [hji80] at H ⊢; exact H)
                        have hji80w : (IntKind.i64.wrap (((rd_L1 y388 x10_4).length : Int) - 1)) = ji80 := (i64_w _).trans hji80
                        by_cases c81 : 0 ≤ (ji80)
                        ·rw [if_pos c81] at H
                         have c81b0 : decide (0 ≤ (ji80)) = true := decide_eq_true c81
                         clear c81
                         by_cases c82 : (ji80) < ((rd_L1 y388 x10_4).length : Int)
                         ·rw [if_pos c82] at H
                          have c82b0 : decide ((ji80) < ((rd_L1 y388 x10_4).length : Int)) = true := decide_eq_true c82
                          clear c82
                          obtain ⟨ji83, hji83⟩ : ∃ j_ : Int, (wrap64 ((y395.length : Int) - 1)) = j_ := ⟨_, rfl⟩
                          replace H : (if 0 ≤ (ji83) then (if (ji83) < (y395.length : Int) then (sennitlaw10_ZealEnds.l1 k4 t368 t373 x5_2 y395 false ((rdOf ByteArray.empty (rd_L1 y388 x10_4) (ji80)).toList == (rdOf ByteArray.empty y395 (ji83)).toList) (wrap64 (x10_4 + 1)) a0_0 l0_1 l0_2 l0_3 true y378 y383 y388) else (none)) else (none)) = some r := by first | (rw [hji83] at H; exact H) | (simp only [hji83] at H ⊢; exact H)
                          have hji83w : (IntKind.i64.wrap ((y395.length : Int) - 1)) = ji83 := (i64_w _).trans hji83
                          by_cases c84 : 0 ≤ (ji83)
                          ·rw [if_pos c84] at H
                           have c84b0 : decide (0 ≤ (ji83)) = true := decide_eq_true c84
                           clear c84
                           by_cases c85 : (ji83) < (y395.length : Int)
                           ·rw [if_pos c85] at H
                            have c85b0 : decide ((ji83) < (y395.length : Int)) = true := decide_eq_true c85
                            clear c85
                            have H' := am H
                            clear H
                            have hnb86 := NB377_367.out
                            have hnc86 := NB367_377.out
                            have hcz87_0 : wr.cell? ⟨gb377, 0, none⟩ = some (.bool true) := (blk_cell BK377.out 0).trans rfl
                            have hcz87_1 : wr.cell? ⟨gb377, 1, none⟩ = some (.slice A37 y378.length c37) := (blk_cell BK377.out 1).trans rfl
                            have hcz87_2 : wr.cell? ⟨gb377, 2, none⟩ = some (.slice A38 y383.length c38) := (blk_cell BK377.out 2).trans rfl
                            have hcz87_3 : wr.cell? ⟨gb377, 3, none⟩ = some (.slice (some ad394) y388.length c39) := (blk_cell BK377.out 3).trans rfl
                            have hfz87_0 := blk_frozen BK377.out 0
                            have hfz87_1 := blk_frozen BK377.out 1
                            have hfz87_2 := blk_frozen BK377.out 2
                            have hfz87_3 := blk_frozen BK377.out 3
                            have p400 : 0 ≤ (x10_4 : Int) := of_decide_eq_true (by first | (with_reducible assumption) | assumption)
                            have q400 : x10_4 < (y388.length : Int) := of_decide_eq_true (by first | (with_reducible assumption) | assumption)
                            obtain ⟨ad400, A400_0, c400_0, e400, hx400_0, hl400_0, hi400_0⟩ := at_L1 (Kd.V_reads' HO_378003.out).2.2 x10_4 p400 q400
                            obtain rfl : ad394 = ad400 := (by injection e400)
                            obtain ⟨ce400, hce400, hMe400, hcc400⟩ := Kd.V_get HO_378003.out [] x10_4 p400 (by first | exact q400 | exact of_decide_eq_true (by first | (with_reducible assumption) | assumption) | (have e_ := (Kd.V_reads' HO_378003.out).1; omega))
                            obtain ⟨ua400_0, uc400_0, rfl, ul400_0, ge400_0⟩ := Kd.FK_slice_open hMe400
                            have hv400_0 := hcc400 0 _ rfl
                            rw [Nat.add_zero, show ((Kd.slice 9 Kd.string)).sz = 1 from rfl, Nat.mul_one] at hv400_0
                            replace hv400_0 := Option.some.inj (hv400_0.symm.trans hx400_0)
                            injection hv400_0 with hva_ hvn_ hvc_
                            rw [hva_] at ge400_0
                            rw [hvc_] at ul400_0
                            have HL400_0 := am (show Kd.V Kd.string 9 _ w.heap.size _ _ (rd_L1 y388 x10_4) from Kd.V_mk ul400_0 ge400_0)
                            clear hva_ hvn_ hvc_ ge400_0 ul400_0
                            clear hcc400 hce400
                            have HR400_0 := am hi400_0
                            have HC400_0 := am hl400_0
                            clear hi400_0 hl400_0
                            replace p400 := eq_true p400
                            replace q400 := eq_true q400
                            have p405 : 0 ≤ ((ji80) : Int) := of_decide_eq_true (by first | (with_reducible assumption) | assumption)
                            have q405 : (ji80) < ((rd_L1 y388 x10_4).length : Int) := of_decide_eq_true (by first | (with_reducible assumption) | assumption)
                            obtain ⟨ad405, e405, hx405_0⟩ := Kd.at_string (by repeat (first | (with_reducible exact HR400_0.out) | (with_reducible refine Kd.C_alloc ?_ _) | (with_reducible refine Kd.C_drewN ?_ _) | (with_reducible refine Kd.C_drew ?_) | exact HR400_0.out)) (ji80) p405 q405
                            cases e405
                            replace p405 := eq_true p405
                            replace q405 := eq_true q405
                            have p406 : 0 ≤ ((ji83) : Int) := of_decide_eq_true (by first | (with_reducible assumption) | assumption)
                            have q406 : (ji83) < (y395.length : Int) := of_decide_eq_true (by first | (with_reducible assumption) | assumption)
                            obtain ⟨ad406, e406, hx406_0⟩ := Kd.at_string (Kd.V_reads' HO_7.out).2.2 (ji83) p406 q406
                            cases e406
                            replace p406 := eq_true p406
                            replace q406 := eq_true q406
                            go_wp2
                            repeat (go_quiet (fail); try go_wp2)
                            go_roundg k4
                            case measure => have := HJ2.out; have := HK2.out; have := HJ33.out; have := HK4.out; omega
                            case rel => exact ⟨(false), (((rdOf ByteArray.empty (rd_L1 y388 x10_4) (ji80)).toList == (rdOf ByteArray.empty y395 (ji83)).toList)), (wrap64 (x10_4 + 1)), (by first | rfl | (simp; done) | (simp [*]; done)), (by first | rfl | (simp; done) | (simp only [← hji80, ← hji83] <;> (first | rfl | simp)) | (simp [*]; done)), (by first | rfl | (simp; done) | (simp [*]; done)), H', ⟨by have := HJ2.out; have := HK2.out; have := HJ33.out; have := HK4.out; omega⟩, ⟨by (with_reducible repeat (first | apply nA | apply nN | apply nD)); exact HO_4.out⟩, ⟨by (with_reducible repeat (first | apply vA | apply vN | apply vD)); exact HO_7.out⟩, ⟨by (with_reducible repeat (first | apply vA | apply vN | apply vD)); exact HO_368001.out⟩, ⟨by (with_reducible repeat (first | apply vA | apply vN | apply vD)); exact HO_368002.out⟩, ⟨by (with_reducible repeat (first | apply vA | apply vN | apply vD)); exact HO_368003.out⟩, ⟨by (with_reducible repeat (first | apply vA | apply vN | apply vD)); exact HO_378001.out⟩, ⟨by (with_reducible repeat (first | apply vA | apply vN | apply vD)); exact HO_378002.out⟩, ⟨by (with_reducible repeat (first | apply vA | apply vN | apply vD)); exact HO_378003.out⟩, ⟨by (with_reducible repeat (first | refine blk_drewN ?_ _ | refine blk_drew ?_ | refine blk_alloc ?_ _)); exact BK367.out⟩, ⟨by (with_reducible repeat (first | refine blk_drewN ?_ _ | refine blk_drew ?_ | refine blk_alloc ?_ _)); exact BK377.out⟩, ⟨by repeat (first | (with_reducible exact HR376_1.out) | (with_reducible refine Kd.C_alloc ?_ _) | (with_reducible refine Kd.C_drewN ?_ _) | (with_reducible refine Kd.C_drew ?_) | exact HR376_1.out)⟩, ⟨by repeat (first | (with_reducible exact HR376_2.out) | (with_reducible refine Kd.C_alloc ?_ _) | (with_reducible refine Kd.C_drewN ?_ _) | (with_reducible refine Kd.C_drew ?_) | exact HR376_2.out)⟩, ⟨by repeat (first | (with_reducible exact HR376_3.out) | (with_reducible refine Kd.C_alloc ?_ _) | (with_reducible refine Kd.C_drewN ?_ _) | (with_reducible refine Kd.C_drew ?_) | exact HR376_3.out)⟩, ⟨by repeat (first | (with_reducible exact HR394_0.out) | (with_reducible refine Kd.C_alloc ?_ _) | (with_reducible refine Kd.C_drewN ?_ _) | (with_reducible refine Kd.C_drew ?_) | exact HR394_0.out)⟩, ⟨by repeat (first | (with_reducible first | exact HB.out | apply below_alloc | apply pw_below_drewN | apply below_drew1 | refine below_set ?_ GE367.out | refine below_set ?_ GE377.out) | exact HB.out)⟩⟩
                           ·rw [if_neg c85] at H
                            exact absurd H (by simp)
                          ·rw [if_neg c84] at H
                           exact absurd H (by simp)
                         ·rw [if_neg c82] at H
                          exact absurd H (by simp)
                        ·rw [if_neg c81] at H
                         exact absurd H (by simp)
                       ·rw [if_neg c79] at H
                        have c79b0 : decide (0 < ((rd_L1 y388 x10_4).length : Int)) = false := decide_eq_false c79
                        have c79b1 : decide (0 < (rd_L1 y388 x10_4).length) = false := decide_eq_false (by omega)
                        clear c79
                        have H' := am H
                        clear H
                        have hnb88 := NB377_367.out
                        have hnc88 := NB367_377.out
                        have hcz89_0 : wr.cell? ⟨gb377, 0, none⟩ = some (.bool true) := (blk_cell BK377.out 0).trans rfl
                        have hcz89_1 : wr.cell? ⟨gb377, 1, none⟩ = some (.slice A37 y378.length c37) := (blk_cell BK377.out 1).trans rfl
                        have hcz89_2 : wr.cell? ⟨gb377, 2, none⟩ = some (.slice A38 y383.length c38) := (blk_cell BK377.out 2).trans rfl
                        have hcz89_3 : wr.cell? ⟨gb377, 3, none⟩ = some (.slice (some ad394) y388.length c39) := (blk_cell BK377.out 3).trans rfl
                        have hfz89_0 := blk_frozen BK377.out 0
                        have hfz89_1 := blk_frozen BK377.out 1
                        have hfz89_2 := blk_frozen BK377.out 2
                        have hfz89_3 := blk_frozen BK377.out 3
                        have p400 : 0 ≤ (x10_4 : Int) := of_decide_eq_true (by first | (with_reducible assumption) | assumption)
                        have q400 : x10_4 < (y388.length : Int) := of_decide_eq_true (by first | (with_reducible assumption) | assumption)
                        obtain ⟨ad400, A400_0, c400_0, e400, hx400_0, hl400_0, hi400_0⟩ := at_L1 (Kd.V_reads' HO_378003.out).2.2 x10_4 p400 q400
                        obtain rfl : ad394 = ad400 := (by injection e400)
                        obtain ⟨ce400, hce400, hMe400, hcc400⟩ := Kd.V_get HO_378003.out [] x10_4 p400 (by first | exact q400 | exact of_decide_eq_true (by first | (with_reducible assumption) | assumption) | (have e_ := (Kd.V_reads' HO_378003.out).1; omega))
                        obtain ⟨ua400_0, uc400_0, rfl, ul400_0, ge400_0⟩ := Kd.FK_slice_open hMe400
                        have hv400_0 := hcc400 0 _ rfl
                        rw [Nat.add_zero, show ((Kd.slice 9 Kd.string)).sz = 1 from rfl, Nat.mul_one] at hv400_0
                        replace hv400_0 := Option.some.inj (hv400_0.symm.trans hx400_0)
                        injection hv400_0 with hva_ hvn_ hvc_
                        rw [hva_] at ge400_0
                        rw [hvc_] at ul400_0
                        have HL400_0 := am (show Kd.V Kd.string 9 _ w.heap.size _ _ (rd_L1 y388 x10_4) from Kd.V_mk ul400_0 ge400_0)
                        clear hva_ hvn_ hvc_ ge400_0 ul400_0
                        clear hcc400 hce400
                        have HR400_0 := am hi400_0
                        have HC400_0 := am hl400_0
                        clear hi400_0 hl400_0
                        replace p400 := eq_true p400
                        replace q400 := eq_true q400
                        go_wp2
                        repeat (go_quiet (fail); try go_wp2)
                        go_roundg k4
                        case measure => have := HJ2.out; have := HK2.out; have := HJ33.out; have := HK4.out; omega
                        case rel => exact ⟨(false), (false), (wrap64 (x10_4 + 1)), (by first | rfl | (simp; done) | (simp [*]; done)), (by first | rfl | (simp; done) | (simp [*]; done)), (by first | rfl | (simp; done) | (simp [*]; done)), H', ⟨by have := HJ2.out; have := HK2.out; have := HJ33.out; have := HK4.out; omega⟩, ⟨by (with_reducible repeat (first | apply nA | apply nN | apply nD)); exact HO_4.out⟩, ⟨by (with_reducible repeat (first | apply vA | apply vN | apply vD)); exact HO_7.out⟩, ⟨by (with_reducible repeat (first | apply vA | apply vN | apply vD)); exact HO_368001.out⟩, ⟨by (with_reducible repeat (first | apply vA | apply vN | apply vD)); exact HO_368002.out⟩, ⟨by (with_reducible repeat (first | apply vA | apply vN | apply vD)); exact HO_368003.out⟩, ⟨by (with_reducible repeat (first | apply vA | apply vN | apply vD)); exact HO_378001.out⟩, ⟨by (with_reducible repeat (first | apply vA | apply vN | apply vD)); exact HO_378002.out⟩, ⟨by (with_reducible repeat (first | apply vA | apply vN | apply vD)); exact HO_378003.out⟩, ⟨by (with_reducible repeat (first | refine blk_drewN ?_ _ | refine blk_drew ?_ | refine blk_alloc ?_ _)); exact BK367.out⟩, ⟨by (with_reducible repeat (first | refine blk_drewN ?_ _ | refine blk_drew ?_ | refine blk_alloc ?_ _)); exact BK377.out⟩, ⟨by repeat (first | (with_reducible exact HR376_1.out) | (with_reducible refine Kd.C_alloc ?_ _) | (with_reducible refine Kd.C_drewN ?_ _) | (with_reducible refine Kd.C_drew ?_) | exact HR376_1.out)⟩, ⟨by repeat (first | (with_reducible exact HR376_2.out) | (with_reducible refine Kd.C_alloc ?_ _) | (with_reducible refine Kd.C_drewN ?_ _) | (with_reducible refine Kd.C_drew ?_) | exact HR376_2.out)⟩, ⟨by repeat (first | (with_reducible exact HR376_3.out) | (with_reducible refine Kd.C_alloc ?_ _) | (with_reducible refine Kd.C_drewN ?_ _) | (with_reducible refine Kd.C_drew ?_) | exact HR376_3.out)⟩, ⟨by repeat (first | (with_reducible exact HR394_0.out) | (with_reducible refine Kd.C_alloc ?_ _) | (with_reducible refine Kd.C_drewN ?_ _) | (with_reducible refine Kd.C_drew ?_) | exact HR394_0.out)⟩, ⟨by repeat (first | (with_reducible first | exact HB.out | apply below_alloc | apply pw_below_drewN | apply below_drew1 | refine below_set ?_ GE367.out | refine below_set ?_ GE377.out) | exact HB.out)⟩⟩
                      ·replace c78 := Bool.eq_false_iff.mpr c78
                       subst c78
                       have H1 : (sennitlaw10_ZealEnds.l1 k4 t368 t373 x5_2 y395 false false (wrap64 (x10_4 + 1)) a0_0 l0_1 l0_2 l0_3 true y378 y383 y388) = some r := by rw [if_neg (show ¬ (false = true) by decide)] at H; exact H
                       clear H
                       have H := H1
                       clear H1
                       have H' := am H
                       clear H
                       have hnb90 := NB377_367.out
                       have hnc90 := NB367_377.out
                       have hcz91_0 : wr.cell? ⟨gb377, 0, none⟩ = some (.bool true) := (blk_cell BK377.out 0).trans rfl
                       have hcz91_1 : wr.cell? ⟨gb377, 1, none⟩ = some (.slice A37 y378.length c37) := (blk_cell BK377.out 1).trans rfl
                       have hcz91_2 : wr.cell? ⟨gb377, 2, none⟩ = some (.slice A38 y383.length c38) := (blk_cell BK377.out 2).trans rfl
                       have hcz91_3 : wr.cell? ⟨gb377, 3, none⟩ = some (.slice (some ad394) y388.length c39) := (blk_cell BK377.out 3).trans rfl
                       have hfz91_0 := blk_frozen BK377.out 0
                       have hfz91_1 := blk_frozen BK377.out 1
                       have hfz91_2 := blk_frozen BK377.out 2
                       have hfz91_3 := blk_frozen BK377.out 3
                       have p400 : 0 ≤ (x10_4 : Int) := of_decide_eq_true (by first | (with_reducible assumption) | assumption)
                       have q400 : x10_4 < (y388.length : Int) := of_decide_eq_true (by first | (with_reducible assumption) | assumption)
                       obtain ⟨ad400, A400_0, c400_0, e400, hx400_0, hl400_0, hi400_0⟩ := at_L1 (Kd.V_reads' HO_378003.out).2.2 x10_4 p400 q400
                       obtain rfl : ad394 = ad400 := (by injection e400)
                       obtain ⟨ce400, hce400, hMe400, hcc400⟩ := Kd.V_get HO_378003.out [] x10_4 p400 (by first | exact q400 | exact of_decide_eq_true (by first | (with_reducible assumption) | assumption) | (have e_ := (Kd.V_reads' HO_378003.out).1; omega))
                       obtain ⟨ua400_0, uc400_0, rfl, ul400_0, ge400_0⟩ := Kd.FK_slice_open hMe400
                       have hv400_0 := hcc400 0 _ rfl
                       rw [Nat.add_zero, show ((Kd.slice 9 Kd.string)).sz = 1 from rfl, Nat.mul_one] at hv400_0
                       replace hv400_0 := Option.some.inj (hv400_0.symm.trans hx400_0)
                       injection hv400_0 with hva_ hvn_ hvc_
                       rw [hva_] at ge400_0
                       rw [hvc_] at ul400_0
                       have HL400_0 := am (show Kd.V Kd.string 9 _ w.heap.size _ _ (rd_L1 y388 x10_4) from Kd.V_mk ul400_0 ge400_0)
                       clear hva_ hvn_ hvc_ ge400_0 ul400_0
                       clear hcc400 hce400
                       have HR400_0 := am hi400_0
                       have HC400_0 := am hl400_0
                       clear hi400_0 hl400_0
                       replace p400 := eq_true p400
                       replace q400 := eq_true q400
                       go_wp2
                       repeat (go_quiet (fail); try go_wp2)
                       go_roundg k4
                       case measure => have := HJ2.out; have := HK2.out; have := HJ33.out; have := HK4.out; omega
                       case rel => exact ⟨(false), (false), (wrap64 (x10_4 + 1)), (by first | rfl | (simp; done) | (simp [*]; done)), (by first | rfl | (simp; done) | (simp [*]; done)), (by first | rfl | (simp; done) | (simp [*]; done)), H', ⟨by have := HJ2.out; have := HK2.out; have := HJ33.out; have := HK4.out; omega⟩, ⟨by (with_reducible repeat (first | apply nA | apply nN | apply nD)); exact HO_4.out⟩, ⟨by (with_reducible repeat (first | apply vA | apply vN | apply vD)); exact HO_7.out⟩, ⟨by (with_reducible repeat (first | apply vA | apply vN | apply vD)); exact HO_368001.out⟩, ⟨by (with_reducible repeat (first | apply vA | apply vN | apply vD)); exact HO_368002.out⟩, ⟨by (with_reducible repeat (first | apply vA | apply vN | apply vD)); exact HO_368003.out⟩, ⟨by (with_reducible repeat (first | apply vA | apply vN | apply vD)); exact HO_378001.out⟩, ⟨by (with_reducible repeat (first | apply vA | apply vN | apply vD)); exact HO_378002.out⟩, ⟨by (with_reducible repeat (first | apply vA | apply vN | apply vD)); exact HO_378003.out⟩, ⟨by (with_reducible repeat (first | refine blk_drewN ?_ _ | refine blk_drew ?_ | refine blk_alloc ?_ _)); exact BK367.out⟩, ⟨by (with_reducible repeat (first | refine blk_drewN ?_ _ | refine blk_drew ?_ | refine blk_alloc ?_ _)); exact BK377.out⟩, ⟨by repeat (first | (with_reducible exact HR376_1.out) | (with_reducible refine Kd.C_alloc ?_ _) | (with_reducible refine Kd.C_drewN ?_ _) | (with_reducible refine Kd.C_drew ?_) | exact HR376_1.out)⟩, ⟨by repeat (first | (with_reducible exact HR376_2.out) | (with_reducible refine Kd.C_alloc ?_ _) | (with_reducible refine Kd.C_drewN ?_ _) | (with_reducible refine Kd.C_drew ?_) | exact HR376_2.out)⟩, ⟨by repeat (first | (with_reducible exact HR376_3.out) | (with_reducible refine Kd.C_alloc ?_ _) | (with_reducible refine Kd.C_drewN ?_ _) | (with_reducible refine Kd.C_drew ?_) | exact HR376_3.out)⟩, ⟨by repeat (first | (with_reducible exact HR394_0.out) | (with_reducible refine Kd.C_alloc ?_ _) | (with_reducible refine Kd.C_drewN ?_ _) | (with_reducible refine Kd.C_drew ?_) | exact HR394_0.out)⟩, ⟨by repeat (first | (with_reducible first | exact HB.out | apply below_alloc | apply pw_below_drewN | apply below_drew1 | refine below_set ?_ GE367.out | refine below_set ?_ GE377.out) | exact HB.out)⟩⟩
                    ·rw [if_neg c57] at H
                     exact absurd H (by simp)
                   ·rw [if_neg c56] at H
                    have c56b0 : decide (x10_4 < (y388.length : Int)) = false := decide_eq_false c56
                    clear c56
                    by_cases c92 : x8_4 = true
                    ·subst c92
                     have H1 : (none) = some r := by rw [if_pos rfl] at H; exact H
                     clear H
                     have H := H1
                     clear H1
                     exact absurd H (by simp)
                    ·replace c92 := Bool.eq_false_iff.mpr c92
                     subst c92
                     have H1 : (if x9_4 = true then (none) else (sennitlaw10_ZealEnds.l0 k4 t368 t373 (wrap64 (x5_2 + 1)) a0_0 l0_1 l0_2 l0_3)) = some r := by rw [if_neg (show ¬ (false = true) by decide)] at H; exact H
                     clear H
                     have H := H1
                     clear H1
                     by_cases c95 : x9_4 = true
                     ·subst c95
                      have H1 : (none) = some r := by rw [if_pos rfl] at H; exact H
                      clear H
                      have H := H1
                      clear H1
                      exact absurd H (by simp)
                     ·replace c95 := Bool.eq_false_iff.mpr c95
                      subst c95
                      have H1 : (sennitlaw10_ZealEnds.l0 k4 t368 t373 (wrap64 (x5_2 + 1)) a0_0 l0_1 l0_2 l0_3) = some r := by rw [if_neg (show ¬ (false = true) by decide)] at H; exact H
                      clear H
                      have H := H1
                      clear H1
                      have H' := am H
                      clear H
                      have hnb98 := NB377_367.out
                      have hnc98 := NB367_377.out
                      have hcz99_0 : wr.cell? ⟨gb377, 0, none⟩ = some (.bool true) := (blk_cell BK377.out 0).trans rfl
                      have hcz99_1 : wr.cell? ⟨gb377, 1, none⟩ = some (.slice A37 y378.length c37) := (blk_cell BK377.out 1).trans rfl
                      have hcz99_2 : wr.cell? ⟨gb377, 2, none⟩ = some (.slice A38 y383.length c38) := (blk_cell BK377.out 2).trans rfl
                      have hcz99_3 : wr.cell? ⟨gb377, 3, none⟩ = some (.slice (some ad394) y388.length c39) := (blk_cell BK377.out 3).trans rfl
                      have hfz99_0 := blk_frozen BK377.out 0
                      have hfz99_1 := blk_frozen BK377.out 1
                      have hfz99_2 := blk_frozen BK377.out 2
                      have hfz99_3 := blk_frozen BK377.out 3
                      go_wp2
                      repeat (go_quiet (fail); try go_wp2)
                      go_roundg k4
                      case measure => have := HJ2.out; have := HK2.out; have := HJ33.out; have := HK4.out; omega
                      case rel => exact ⟨(wrap64 (x5_2 + 1)), (by first | rfl | (simp; done) | (simp [*]; done)), H', ⟨by have := HJ2.out; have := HK2.out; have := HJ33.out; have := HK4.out; omega⟩, ⟨by (with_reducible repeat (first | apply nA | apply nN | apply nD)); exact Kd.N_mono HO_4.out (fun _ hk => ⟨hk.1, hk.2.1⟩)⟩, ⟨by (with_reducible repeat (first | apply vA | apply vN | apply vD)); exact Kd.V_mono HO_368001.out (fun _ hk => ⟨hk.1, ⟨hk.2.1, hk.2.2.1⟩⟩)⟩, ⟨by (with_reducible repeat (first | apply vA | apply vN | apply vD)); exact Kd.V_mono HO_368002.out (fun _ hk => ⟨hk.1, ⟨hk.2.1, hk.2.2.1⟩⟩)⟩, ⟨by (with_reducible repeat (first | apply vA | apply vN | apply vD)); exact Kd.V_mono HO_368003.out (fun _ hk => ⟨hk.1, ⟨hk.2.1, hk.2.2.1⟩⟩)⟩, ⟨by (with_reducible repeat (first | refine blk_drewN ?_ _ | refine blk_drew ?_ | refine blk_alloc ?_ _)); exact BK367.out⟩, ⟨by repeat (first | (with_reducible first | exact HB.out | apply below_alloc | apply pw_below_drewN | apply below_drew1 | refine below_set ?_ GE367.out | refine below_set ?_ GE377.out) | exact HB.out)⟩⟩
                ·rw [if_neg c52] at H
                 exact absurd H (by simp)
               ·rw [if_neg c51] at H
                exact absurd H (by simp)
           ·replace c33 := Bool.eq_false_iff.mpr c33
            subst c33
            have H1 : (sennitlaw10_ZealEnds.l0 k2 t368 t373 (wrap64 (x5_2 + 1)) a0_0 l0_1 l0_2 l0_3) = some r := by rw [if_neg (show ¬ (false = true) by decide)] at H; exact H
            clear H
            have H := H1
            clear H1
            have H' := am H
            clear H
            obtain ⟨Ao100, co100, eo100⟩ := Kd.N_slice HO_4.out
            subst eo100
            have p376 : 0 ≤ (x5_2 : Int) := of_decide_eq_true (by first | (with_reducible assumption) | assumption)
            have q376 : x5_2 < (t373.length : Int) := of_decide_eq_true (by first | (with_reducible assumption) | assumption)
            obtain ⟨ad376, A376_1, c376_1, A376_2, c376_2, A376_3, c376_3, e376, hx376_0, hx376_1, hx376_2, hx376_3, hl376_1, hi376_1, hl376_2, hi376_2, hl376_3, hi376_3⟩ := at_T27 (Kd.N_reads' HO_4.out).2.2 x5_2 p376 q376
            (try rw [← Nbq32.out] at hx376_0)
            cases e376
            obtain ⟨ce376, hce376, hMe376, hcc376⟩ := Kd.N_get HO_4.out z27 x5_2 p376 (by first | exact q376 | exact of_decide_eq_true (by first | (with_reducible assumption) | assumption) | (have e_ := (Kd.N_reads' HO_4.out).1; omega))
            obtain ⟨ua376_1, uc376_1, ua376_2, uc376_2, ua376_3, uc376_3, rfl, ul376_1, ge376_1, ul376_2, ge376_2, ul376_3, ge376_3⟩ := k27_openF hMe376
            have hv376_1 := hcc376 1 _ rfl
            rw [add_field _ _ 1 (by omega)] at hv376_1
            replace hv376_1 := Option.some.inj (hv376_1.symm.trans hx376_1)
            injection hv376_1 with hva_ hvn_ hvc_
            rw [hva_] at ge376_1
            rw [hvc_] at ul376_1
            have HL376_1 := am (show Kd.V Kd.string 9 _ w.heap.size _ _ ((rd_T27 t373 x5_2).f1) from Kd.V_mk ul376_1 ge376_1)
            clear hva_ hvn_ hvc_ ge376_1 ul376_1
            have hv376_2 := hcc376 2 _ rfl
            rw [add_field _ _ 2 (by omega)] at hv376_2
            replace hv376_2 := Option.some.inj (hv376_2.symm.trans hx376_2)
            injection hv376_2 with hva_ hvn_ hvc_
            rw [hva_] at ge376_2
            rw [hvc_] at ul376_2
            have HL376_2 := am (show Kd.V Kd.string 9 _ w.heap.size _ _ ((rd_T27 t373 x5_2).f2) from Kd.V_mk ul376_2 ge376_2)
            clear hva_ hvn_ hvc_ ge376_2 ul376_2
            have hv376_3 := hcc376 3 _ rfl
            rw [add_field _ _ 3 (by omega)] at hv376_3
            replace hv376_3 := Option.some.inj (hv376_3.symm.trans hx376_3)
            injection hv376_3 with hva_ hvn_ hvc_
            rw [hva_] at ge376_3
            rw [hvc_] at ul376_3
            have HL376_3 := am (show Kd.V (Kd.slice 9 Kd.string) 22 _ w.heap.size _ _ ((rd_T27 t373 x5_2).f3) from Kd.V_mk ul376_3 ge376_3)
            clear hva_ hvn_ hvc_ ge376_3 ul376_3
            clear hcc376 hce376
            have HR376_1 := am hi376_1
            have HC376_1 := am hl376_1
            clear hi376_1 hl376_1
            have HR376_2 := am hi376_2
            have HC376_2 := am hl376_2
            clear hi376_2 hl376_2
            have HR376_3 := am hi376_3
            have HC376_3 := am hl376_3
            clear hi376_3 hl376_3
            replace p376 := eq_true p376
            replace q376 := eq_true q376
            go_wp2_with (first | ((with_reducible refine gate_dst (N := 6) rfl ?_); (try (refine gate_guard (by rfl) ?_; dsimp only)); refine box_event ?hg (N := 6) ?hd (cs := #[.bool false, .slice none 0 0, .slice none 0 0, .slice none 0 0]) (t := 27) ?hr ?_; (case hd => rfl); (case hg => rfl); (case hr => first | (go_simp; done) | (go_simp; rfl)); intro gb377 hg w101 hbox hb; have n0_ := am (Kd.N_below (Kd.N_elderB (by (with_reducible repeat (first | apply nA | apply nN | apply nD)); exact HO_4.out) gb377 (Nat.le_of_eq hg.symm)) hb); have n1_ := am (Kd.V_below (Kd.V_elderB (by (with_reducible repeat (first | apply vA | apply vN | apply vD)); exact HO_368001.out) gb377 (Nat.le_of_eq hg.symm)) hb); have n2_ := am (Kd.V_below (Kd.V_elderB (by (with_reducible repeat (first | apply vA | apply vN | apply vD)); exact HO_368002.out) gb377 (Nat.le_of_eq hg.symm)) hb); have n3_ := am (Kd.V_below (Kd.V_elderB (by (with_reducible repeat (first | apply vA | apply vN | apply vD)); exact HO_368003.out) gb377 (Nat.le_of_eq hg.symm)) hb); have n4_ := am (Kd.V_below (Kd.V_elderB (by (with_reducible repeat (first | apply vA | apply vN | apply vD)); exact HL376_1.out) gb377 (Nat.le_of_eq hg.symm)) hb); have n5_ := am (Kd.V_below (Kd.V_elderB (by (with_reducible repeat (first | apply vA | apply vN | apply vD)); exact HL376_2.out) gb377 (Nat.le_of_eq hg.symm)) hb); have n6_ := am (Kd.V_below (Kd.V_elderB (by (with_reducible repeat (first | apply vA | apply vN | apply vD)); exact HL376_3.out) gb377 (Nat.le_of_eq hg.symm)) hb); have n7_ := am (blk_below (g := gb367) (o := .cells #[.bool a0_0, .slice A0_1 l0_1.length c0_1, .slice A0_2 l0_2.length c0_2, .slice A0_3 l0_3.length c0_3] 27 (0, 0)) (by (with_reducible repeat (first | refine blk_drewN ?_ _ | refine blk_drew ?_ | refine blk_alloc ?_ _)); exact BK367.out) hb); have n8_ := am (Kd.C_below (by repeat (first | (with_reducible exact HR376_1.out) | (with_reducible refine Kd.C_alloc ?_ _) | (with_reducible refine Kd.C_drewN ?_ _) | (with_reducible refine Kd.C_drew ?_) | exact HR376_1.out)) hb); have n9_ := am (Kd.C_below (by repeat (first | (with_reducible exact HR376_2.out) | (with_reducible refine Kd.C_alloc ?_ _) | (with_reducible refine Kd.C_drewN ?_ _) | (with_reducible refine Kd.C_drew ?_) | exact HR376_2.out)) hb); have n10_ := am (Kd.C_below (by repeat (first | (with_reducible exact HR376_3.out) | (with_reducible refine Kd.C_alloc ?_ _) | (with_reducible refine Kd.C_drewN ?_ _) | (with_reducible refine Kd.C_drew ?_) | exact HR376_3.out)) hb); have n11_ := am (below_step (by repeat (first | (with_reducible first | exact HB.out | apply below_alloc | apply pw_below_drewN | apply below_drew1 | refine below_set ?_ GE367.out) | exact HB.out)) hb); have n12_ := am (hbox); have n13_ := am ((by rw [hg]; exact (below_size (by repeat (first | (with_reducible first | exact HB.out | apply below_alloc | apply pw_below_drewN | apply below_drew1 | refine below_set ?_ GE367.out) | exact HB.out))) : w.heap.size ≤ gb377)); have n14_ := am ((by rw [hg]; exact (below_size (by repeat (first | (with_reducible first | exact HB.out | apply below_alloc | apply pw_below_drewN | apply below_drew1 | refine below_set ?_ GE367.out) | exact HB.out))) : w.heap.size ≤ gb377)); have n15_ := am ((by rw [hg]; exact Nat.ne_of_lt (blk_lt (g := gb367) (o := .cells #[.bool a0_0, .slice A0_1 l0_1.length c0_1, .slice A0_2 l0_2.length c0_2, .slice A0_3 l0_3.length c0_3] 27 (0, 0)) (by (with_reducible repeat (first | refine blk_drewN ?_ _ | refine blk_drew ?_ | refine blk_alloc ?_ _)); exact BK367.out)) : gb367 ≠ gb377)); have n16_ := am ((by rw [hg]; exact Nat.ne_of_gt (blk_lt (g := gb367) (o := .cells #[.bool a0_0, .slice A0_1 l0_1.length c0_1, .slice A0_2 l0_2.length c0_2, .slice A0_3 l0_3.length c0_3] 27 (0, 0)) (by (with_reducible repeat (first | refine blk_drewN ?_ _ | refine blk_drew ?_ | refine blk_alloc ?_ _)); exact BK367.out)) : gb377 ≠ gb367)); clear HO_4; clear HO_368001; clear HO_368002; clear HO_368003; clear HL376_1; clear HL376_2; clear HL376_3; clear BK367; clear HR376_1; clear HR376_2; clear HR376_3; clear HB; have HO_4 := n0_; have HO_368001 := n1_; have HO_368002 := n2_; have HO_368003 := n3_; have HL376_1 := n4_; have HL376_2 := n5_; have HL376_3 := n6_; have BK367 := n7_; have HR376_1 := n8_; have HR376_2 := n9_; have HR376_3 := n10_; have HB := n11_; have BK377 := n12_; have GW377 := n13_; have GE377 := n14_; have NB367_377 := n15_; have NB377_367 := n16_; clear n0_ n1_ n2_ n3_ n4_ n5_ n6_ n7_ n8_ n9_ n10_ n11_ n12_ n13_ n14_ n15_ n16_; clear hb hbox hg; have q102 : (0 : Int) ≤ ((((rd_T27 t373 x5_2).f1).length : Int) : Int) := of_decide_eq_true (by first | (with_reducible assumption) | assumption); obtain ⟨A102, hA102⟩ : ∃ A1x_, A1x_ = A376_1 := ⟨_, rfl⟩; obtain ⟨c102, hc102⟩ : ∃ c1x_, c1x_ = c376_1 := ⟨_, rfl⟩; have hy102 : ((rd_T27 t373 x5_2).f1) = y378 := (by rw [Ny378.out]; rfl); have hv102 : Value.slice A376_1 ((rd_T27 t373 x5_2).f1).length c376_1 = .slice A102 y378.length c102 := (by rw [hA102, hc102, hy102]); have HO382 := HL376_1; rw [hv102, hy102] at HO382; have HC382 : Aside0 (y378.length ≤ c102) := ⟨by rw [hc102, ← hy102]; exact HC376_1.out⟩; clear hA102 hc102 hy102; replace q102 := eq_true q102; have q103 : (0 : Int) ≤ ((((rd_T27 t373 x5_2).f2).length : Int) : Int) := of_decide_eq_true (by first | (with_reducible assumption) | assumption); obtain ⟨A103, hA103⟩ : ∃ A1x_, A1x_ = A376_2 := ⟨_, rfl⟩; obtain ⟨c103, hc103⟩ : ∃ c1x_, c1x_ = c376_2 := ⟨_, rfl⟩; have hy103 : ((rd_T27 t373 x5_2).f2) = y383 := (by rw [Ny383.out]; rfl); have hv103 : Value.slice A376_2 ((rd_T27 t373 x5_2).f2).length c376_2 = .slice A103 y383.length c103 := (by rw [hA103, hc103, hy103]); have HO387 := HL376_2; rw [hv103, hy103] at HO387; have HC387 : Aside0 (y383.length ≤ c103) := ⟨by rw [hc103, ← hy103]; exact HC376_2.out⟩; clear hA103 hc103 hy103; replace q103 := eq_true q103; have q104 : (0 : Int) ≤ ((((rd_T27 t373 x5_2).f3).length : Int) : Int) := of_decide_eq_true (by first | (with_reducible assumption) | assumption); obtain ⟨A104, hA104⟩ : ∃ A1x_, A1x_ = A376_3 := ⟨_, rfl⟩; obtain ⟨c104, hc104⟩ : ∃ c1x_, c1x_ = c376_3 := ⟨_, rfl⟩; have hy104 : ((rd_T27 t373 x5_2).f3) = y388 := (by rw [Ny388.out]; rfl); have hv104 : Value.slice A376_3 ((rd_T27 t373 x5_2).f3).length c376_3 = .slice A104 y388.length c104 := (by rw [hA104, hc104, hy104]); have HO392 := HL376_3; rw [hv104, hy104] at HO392; have HC392 : Aside0 (y388.length ≤ c104) := ⟨by rw [hc104, ← hy104]; exact HC376_3.out⟩; clear hA104 hc104 hy104; replace q104 := eq_true q104; have hnb105 := NB377_367.out; have hnc105 := NB367_377.out; have hcz106_0 : w101.cell? ⟨gb377, 0, none⟩ = some (.bool false) := (blk_cell BK377.out 0).trans rfl; have hcz106_1 : w101.cell? ⟨gb377, 1, none⟩ = some (.slice none 0 0) := (blk_cell BK377.out 1).trans rfl; have hcz106_2 : w101.cell? ⟨gb377, 2, none⟩ = some (.slice none 0 0) := (blk_cell BK377.out 2).trans rfl; have hcz106_3 : w101.cell? ⟨gb377, 3, none⟩ = some (.slice none 0 0) := (blk_cell BK377.out 3).trans rfl; have hfz106_0 := blk_frozen BK377.out 0; have hfz106_1 := blk_frozen BK377.out 1; have hfz106_2 := blk_frozen BK377.out 2; have hfz106_3 := blk_frozen BK377.out 3))
            repeat (go_quiet (first | ((with_reducible refine gate_dst (N := 6) rfl ?_); (try (refine gate_guard (by rfl) ?_; dsimp only)); refine box_event ?hg (N := 6) ?hd (cs := #[.bool false, .slice none 0 0, .slice none 0 0, .slice none 0 0]) (t := 27) ?hr ?_; (case hd => rfl); (case hg => rfl); (case hr => first | (go_simp; done) | (go_simp; rfl)); intro gb377 hg w101 hbox hb; have n0_ := am (Kd.N_below (Kd.N_elderB (by (with_reducible repeat (first | apply nA | apply nN | apply nD)); exact HO_4.out) gb377 (Nat.le_of_eq hg.symm)) hb); have n1_ := am (Kd.V_below (Kd.V_elderB (by (with_reducible repeat (first | apply vA | apply vN | apply vD)); exact HO_368001.out) gb377 (Nat.le_of_eq hg.symm)) hb); have n2_ := am (Kd.V_below (Kd.V_elderB (by (with_reducible repeat (first | apply vA | apply vN | apply vD)); exact HO_368002.out) gb377 (Nat.le_of_eq hg.symm)) hb); have n3_ := am (Kd.V_below (Kd.V_elderB (by (with_reducible repeat (first | apply vA | apply vN | apply vD)); exact HO_368003.out) gb377 (Nat.le_of_eq hg.symm)) hb); have n4_ := am (Kd.V_below (Kd.V_elderB (by (with_reducible repeat (first | apply vA | apply vN | apply vD)); exact HL376_1.out) gb377 (Nat.le_of_eq hg.symm)) hb); have n5_ := am (Kd.V_below (Kd.V_elderB (by (with_reducible repeat (first | apply vA | apply vN | apply vD)); exact HL376_2.out) gb377 (Nat.le_of_eq hg.symm)) hb); have n6_ := am (Kd.V_below (Kd.V_elderB (by (with_reducible repeat (first | apply vA | apply vN | apply vD)); exact HL376_3.out) gb377 (Nat.le_of_eq hg.symm)) hb); have n7_ := am (blk_below (g := gb367) (o := .cells #[.bool a0_0, .slice A0_1 l0_1.length c0_1, .slice A0_2 l0_2.length c0_2, .slice A0_3 l0_3.length c0_3] 27 (0, 0)) (by (with_reducible repeat (first | refine blk_drewN ?_ _ | refine blk_drew ?_ | refine blk_alloc ?_ _)); exact BK367.out) hb); have n8_ := am (Kd.C_below (by repeat (first | (with_reducible exact HR376_1.out) | (with_reducible refine Kd.C_alloc ?_ _) | (with_reducible refine Kd.C_drewN ?_ _) | (with_reducible refine Kd.C_drew ?_) | exact HR376_1.out)) hb); have n9_ := am (Kd.C_below (by repeat (first | (with_reducible exact HR376_2.out) | (with_reducible refine Kd.C_alloc ?_ _) | (with_reducible refine Kd.C_drewN ?_ _) | (with_reducible refine Kd.C_drew ?_) | exact HR376_2.out)) hb); have n10_ := am (Kd.C_below (by repeat (first | (with_reducible exact HR376_3.out) | (with_reducible refine Kd.C_alloc ?_ _) | (with_reducible refine Kd.C_drewN ?_ _) | (with_reducible refine Kd.C_drew ?_) | exact HR376_3.out)) hb); have n11_ := am (below_step (by repeat (first | (with_reducible first | exact HB.out | apply below_alloc | apply pw_below_drewN | apply below_drew1 | refine below_set ?_ GE367.out) | exact HB.out)) hb); have n12_ := am (hbox); have n13_ := am ((by rw [hg]; exact (below_size (by repeat (first | (with_reducible first | exact HB.out | apply below_alloc | apply pw_below_drewN | apply below_drew1 | refine below_set ?_ GE367.out) | exact HB.out))) : w.heap.size ≤ gb377)); have n14_ := am ((by rw [hg]; exact (below_size (by repeat (first | (with_reducible first | exact HB.out | apply below_alloc | apply pw_below_drewN | apply below_drew1 | refine below_set ?_ GE367.out) | exact HB.out))) : w.heap.size ≤ gb377)); have n15_ := am ((by rw [hg]; exact Nat.ne_of_lt (blk_lt (g := gb367) (o := .cells #[.bool a0_0, .slice A0_1 l0_1.length c0_1, .slice A0_2 l0_2.length c0_2, .slice A0_3 l0_3.length c0_3] 27 (0, 0)) (by (with_reducible repeat (first | refine blk_drewN ?_ _ | refine blk_drew ?_ | refine blk_alloc ?_ _)); exact BK367.out)) : gb367 ≠ gb377)); have n16_ := am ((by rw [hg]; exact Nat.ne_of_gt (blk_lt (g := gb367) (o := .cells #[.bool a0_0, .slice A0_1 l0_1.length c0_1, .slice A0_2 l0_2.length c0_2, .slice A0_3 l0_3.length c0_3] 27 (0, 0)) (by (with_reducible repeat (first | refine blk_drewN ?_ _ | refine blk_drew ?_ | refine blk_alloc ?_ _)); exact BK367.out)) : gb377 ≠ gb367)); clear HO_4; clear HO_368001; clear HO_368002; clear HO_368003; clear HL376_1; clear HL376_2; clear HL376_3; clear BK367; clear HR376_1; clear HR376_2; clear HR376_3; clear HB; have HO_4 := n0_; have HO_368001 := n1_; have HO_368002 := n2_; have HO_368003 := n3_; have HL376_1 := n4_; have HL376_2 := n5_; have HL376_3 := n6_; have BK367 := n7_; have HR376_1 := n8_; have HR376_2 := n9_; have HR376_3 := n10_; have HB := n11_; have BK377 := n12_; have GW377 := n13_; have GE377 := n14_; have NB367_377 := n15_; have NB377_367 := n16_; clear n0_ n1_ n2_ n3_ n4_ n5_ n6_ n7_ n8_ n9_ n10_ n11_ n12_ n13_ n14_ n15_ n16_; clear hb hbox hg; have q102 : (0 : Int) ≤ ((((rd_T27 t373 x5_2).f1).length : Int) : Int) := of_decide_eq_true (by first | (with_reducible assumption) | assumption); obtain ⟨A102, hA102⟩ : ∃ A1x_, A1x_ = A376_1 := ⟨_, rfl⟩; obtain ⟨c102, hc102⟩ : ∃ c1x_, c1x_ = c376_1 := ⟨_, rfl⟩; have hy102 : ((rd_T27 t373 x5_2).f1) = y378 := (by rw [Ny378.out]; rfl); have hv102 : Value.slice A376_1 ((rd_T27 t373 x5_2).f1).length c376_1 = .slice A102 y378.length c102 := (by rw [hA102, hc102, hy102]); have HO382 := HL376_1; rw [hv102, hy102] at HO382; have HC382 : Aside0 (y378.length ≤ c102) := ⟨by rw [hc102, ← hy102]; exact HC376_1.out⟩; clear hA102 hc102 hy102; replace q102 := eq_true q102; have q103 : (0 : Int) ≤ ((((rd_T27 t373 x5_2).f2).length : Int) : Int) := of_decide_eq_true (by first | (with_reducible assumption) | assumption); obtain ⟨A103, hA103⟩ : ∃ A1x_, A1x_ = A376_2 := ⟨_, rfl⟩; obtain ⟨c103, hc103⟩ : ∃ c1x_, c1x_ = c376_2 := ⟨_, rfl⟩; have hy103 : ((rd_T27 t373 x5_2).f2) = y383 := (by rw [Ny383.out]; rfl); have hv103 : Value.slice A376_2 ((rd_T27 t373 x5_2).f2).length c376_2 = .slice A103 y383.length c103 := (by rw [hA103, hc103, hy103]); have HO387 := HL376_2; rw [hv103, hy103] at HO387; have HC387 : Aside0 (y383.length ≤ c103) := ⟨by rw [hc103, ← hy103]; exact HC376_2.out⟩; clear hA103 hc103 hy103; replace q103 := eq_true q103; have q104 : (0 : Int) ≤ ((((rd_T27 t373 x5_2).f3).length : Int) : Int) := of_decide_eq_true (by first | (with_reducible assumption) | assumption); obtain ⟨A104, hA104⟩ : ∃ A1x_, A1x_ = A376_3 := ⟨_, rfl⟩; obtain ⟨c104, hc104⟩ : ∃ c1x_, c1x_ = c376_3 := ⟨_, rfl⟩; have hy104 : ((rd_T27 t373 x5_2).f3) = y388 := (by rw [Ny388.out]; rfl); have hv104 : Value.slice A376_3 ((rd_T27 t373 x5_2).f3).length c376_3 = .slice A104 y388.length c104 := (by rw [hA104, hc104, hy104]); have HO392 := HL376_3; rw [hv104, hy104] at HO392; have HC392 : Aside0 (y388.length ≤ c104) := ⟨by rw [hc104, ← hy104]; exact HC376_3.out⟩; clear hA104 hc104 hy104; replace q104 := eq_true q104; have hnb105 := NB377_367.out; have hnc105 := NB367_377.out; have hcz106_0 : w101.cell? ⟨gb377, 0, none⟩ = some (.bool false) := (blk_cell BK377.out 0).trans rfl; have hcz106_1 : w101.cell? ⟨gb377, 1, none⟩ = some (.slice none 0 0) := (blk_cell BK377.out 1).trans rfl; have hcz106_2 : w101.cell? ⟨gb377, 2, none⟩ = some (.slice none 0 0) := (blk_cell BK377.out 2).trans rfl; have hcz106_3 : w101.cell? ⟨gb377, 3, none⟩ = some (.slice none 0 0) := (blk_cell BK377.out 3).trans rfl; have hfz106_0 := blk_frozen BK377.out 0; have hfz106_1 := blk_frozen BK377.out 1; have hfz106_2 := blk_frozen BK377.out 2; have hfz106_3 := blk_frozen BK377.out 3)); try go_wp2_with (first | ((with_reducible refine gate_dst (N := 6) rfl ?_); (try (refine gate_guard (by rfl) ?_; dsimp only)); refine box_event ?hg (N := 6) ?hd (cs := #[.bool false, .slice none 0 0, .slice none 0 0, .slice none 0 0]) (t := 27) ?hr ?_; (case hd => rfl); (case hg => rfl); (case hr => first | (go_simp; done) | (go_simp; rfl)); intro gb377 hg w101 hbox hb; have n0_ := am (Kd.N_below (Kd.N_elderB (by (with_reducible repeat (first | apply nA | apply nN | apply nD)); exact HO_4.out) gb377 (Nat.le_of_eq hg.symm)) hb); have n1_ := am (Kd.V_below (Kd.V_elderB (by (with_reducible repeat (first | apply vA | apply vN | apply vD)); exact HO_368001.out) gb377 (Nat.le_of_eq hg.symm)) hb); have n2_ := am (Kd.V_below (Kd.V_elderB (by (with_reducible repeat (first | apply vA | apply vN | apply vD)); exact HO_368002.out) gb377 (Nat.le_of_eq hg.symm)) hb); have n3_ := am (Kd.V_below (Kd.V_elderB (by (with_reducible repeat (first | apply vA | apply vN | apply vD)); exact HO_368003.out) gb377 (Nat.le_of_eq hg.symm)) hb); have n4_ := am (Kd.V_below (Kd.V_elderB (by (with_reducible repeat (first | apply vA | apply vN | apply vD)); exact HL376_1.out) gb377 (Nat.le_of_eq hg.symm)) hb); have n5_ := am (Kd.V_below (Kd.V_elderB (by (with_reducible repeat (first | apply vA | apply vN | apply vD)); exact HL376_2.out) gb377 (Nat.le_of_eq hg.symm)) hb); have n6_ := am (Kd.V_below (Kd.V_elderB (by (with_reducible repeat (first | apply vA | apply vN | apply vD)); exact HL376_3.out) gb377 (Nat.le_of_eq hg.symm)) hb); have n7_ := am (blk_below (g := gb367) (o := .cells #[.bool a0_0, .slice A0_1 l0_1.length c0_1, .slice A0_2 l0_2.length c0_2, .slice A0_3 l0_3.length c0_3] 27 (0, 0)) (by (with_reducible repeat (first | refine blk_drewN ?_ _ | refine blk_drew ?_ | refine blk_alloc ?_ _)); exact BK367.out) hb); have n8_ := am (Kd.C_below (by repeat (first | (with_reducible exact HR376_1.out) | (with_reducible refine Kd.C_alloc ?_ _) | (with_reducible refine Kd.C_drewN ?_ _) | (with_reducible refine Kd.C_drew ?_) | exact HR376_1.out)) hb); have n9_ := am (Kd.C_below (by repeat (first | (with_reducible exact HR376_2.out) | (with_reducible refine Kd.C_alloc ?_ _) | (with_reducible refine Kd.C_drewN ?_ _) | (with_reducible refine Kd.C_drew ?_) | exact HR376_2.out)) hb); have n10_ := am (Kd.C_below (by repeat (first | (with_reducible exact HR376_3.out) | (with_reducible refine Kd.C_alloc ?_ _) | (with_reducible refine Kd.C_drewN ?_ _) | (with_reducible refine Kd.C_drew ?_) | exact HR376_3.out)) hb); have n11_ := am (below_step (by repeat (first | (with_reducible first | exact HB.out | apply below_alloc | apply pw_below_drewN | apply below_drew1 | refine below_set ?_ GE367.out) | exact HB.out)) hb); have n12_ := am (hbox); have n13_ := am ((by rw [hg]; exact (below_size (by repeat (first | (with_reducible first | exact HB.out | apply below_alloc | apply pw_below_drewN | apply below_drew1 | refine below_set ?_ GE367.out) | exact HB.out))) : w.heap.size ≤ gb377)); have n14_ := am ((by rw [hg]; exact (below_size (by repeat (first | (with_reducible first | exact HB.out | apply below_alloc | apply pw_below_drewN | apply below_drew1 | refine below_set ?_ GE367.out) | exact HB.out))) : w.heap.size ≤ gb377)); have n15_ := am ((by rw [hg]; exact Nat.ne_of_lt (blk_lt (g := gb367) (o := .cells #[.bool a0_0, .slice A0_1 l0_1.length c0_1, .slice A0_2 l0_2.length c0_2, .slice A0_3 l0_3.length c0_3] 27 (0, 0)) (by (with_reducible repeat (first | refine blk_drewN ?_ _ | refine blk_drew ?_ | refine blk_alloc ?_ _)); exact BK367.out)) : gb367 ≠ gb377)); have n16_ := am ((by rw [hg]; exact Nat.ne_of_gt (blk_lt (g := gb367) (o := .cells #[.bool a0_0, .slice A0_1 l0_1.length c0_1, .slice A0_2 l0_2.length c0_2, .slice A0_3 l0_3.length c0_3] 27 (0, 0)) (by (with_reducible repeat (first | refine blk_drewN ?_ _ | refine blk_drew ?_ | refine blk_alloc ?_ _)); exact BK367.out)) : gb377 ≠ gb367)); clear HO_4; clear HO_368001; clear HO_368002; clear HO_368003; clear HL376_1; clear HL376_2; clear HL376_3; clear BK367; clear HR376_1; clear HR376_2; clear HR376_3; clear HB; have HO_4 := n0_; have HO_368001 := n1_; have HO_368002 := n2_; have HO_368003 := n3_; have HL376_1 := n4_; have HL376_2 := n5_; have HL376_3 := n6_; have BK367 := n7_; have HR376_1 := n8_; have HR376_2 := n9_; have HR376_3 := n10_; have HB := n11_; have BK377 := n12_; have GW377 := n13_; have GE377 := n14_; have NB367_377 := n15_; have NB377_367 := n16_; clear n0_ n1_ n2_ n3_ n4_ n5_ n6_ n7_ n8_ n9_ n10_ n11_ n12_ n13_ n14_ n15_ n16_; clear hb hbox hg; have q102 : (0 : Int) ≤ ((((rd_T27 t373 x5_2).f1).length : Int) : Int) := of_decide_eq_true (by first | (with_reducible assumption) | assumption); obtain ⟨A102, hA102⟩ : ∃ A1x_, A1x_ = A376_1 := ⟨_, rfl⟩; obtain ⟨c102, hc102⟩ : ∃ c1x_, c1x_ = c376_1 := ⟨_, rfl⟩; have hy102 : ((rd_T27 t373 x5_2).f1) = y378 := (by rw [Ny378.out]; rfl); have hv102 : Value.slice A376_1 ((rd_T27 t373 x5_2).f1).length c376_1 = .slice A102 y378.length c102 := (by rw [hA102, hc102, hy102]); have HO382 := HL376_1; rw [hv102, hy102] at HO382; have HC382 : Aside0 (y378.length ≤ c102) := ⟨by rw [hc102, ← hy102]; exact HC376_1.out⟩; clear hA102 hc102 hy102; replace q102 := eq_true q102; have q103 : (0 : Int) ≤ ((((rd_T27 t373 x5_2).f2).length : Int) : Int) := of_decide_eq_true (by first | (with_reducible assumption) | assumption); obtain ⟨A103, hA103⟩ : ∃ A1x_, A1x_ = A376_2 := ⟨_, rfl⟩; obtain ⟨c103, hc103⟩ : ∃ c1x_, c1x_ = c376_2 := ⟨_, rfl⟩; have hy103 : ((rd_T27 t373 x5_2).f2) = y383 := (by rw [Ny383.out]; rfl); have hv103 : Value.slice A376_2 ((rd_T27 t373 x5_2).f2).length c376_2 = .slice A103 y383.length c103 := (by rw [hA103, hc103, hy103]); have HO387 := HL376_2; rw [hv103, hy103] at HO387; have HC387 : Aside0 (y383.length ≤ c103) := ⟨by rw [hc103, ← hy103]; exact HC376_2.out⟩; clear hA103 hc103 hy103; replace q103 := eq_true q103; have q104 : (0 : Int) ≤ ((((rd_T27 t373 x5_2).f3).length : Int) : Int) := of_decide_eq_true (by first | (with_reducible assumption) | assumption); obtain ⟨A104, hA104⟩ : ∃ A1x_, A1x_ = A376_3 := ⟨_, rfl⟩; obtain ⟨c104, hc104⟩ : ∃ c1x_, c1x_ = c376_3 := ⟨_, rfl⟩; have hy104 : ((rd_T27 t373 x5_2).f3) = y388 := (by rw [Ny388.out]; rfl); have hv104 : Value.slice A376_3 ((rd_T27 t373 x5_2).f3).length c376_3 = .slice A104 y388.length c104 := (by rw [hA104, hc104, hy104]); have HO392 := HL376_3; rw [hv104, hy104] at HO392; have HC392 : Aside0 (y388.length ≤ c104) := ⟨by rw [hc104, ← hy104]; exact HC376_3.out⟩; clear hA104 hc104 hy104; replace q104 := eq_true q104; have hnb105 := NB377_367.out; have hnc105 := NB367_377.out; have hcz106_0 : w101.cell? ⟨gb377, 0, none⟩ = some (.bool false) := (blk_cell BK377.out 0).trans rfl; have hcz106_1 : w101.cell? ⟨gb377, 1, none⟩ = some (.slice none 0 0) := (blk_cell BK377.out 1).trans rfl; have hcz106_2 : w101.cell? ⟨gb377, 2, none⟩ = some (.slice none 0 0) := (blk_cell BK377.out 2).trans rfl; have hcz106_3 : w101.cell? ⟨gb377, 3, none⟩ = some (.slice none 0 0) := (blk_cell BK377.out 3).trans rfl; have hfz106_0 := blk_frozen BK377.out 0; have hfz106_1 := blk_frozen BK377.out 1; have hfz106_2 := blk_frozen BK377.out 2; have hfz106_3 := blk_frozen BK377.out 3)))
            go_roundg k2
            case measure => have := HJ2.out; have := HK2.out; omega
            case rel => exact ⟨(wrap64 (x5_2 + 1)), (by first | rfl | (simp; done) | (simp [*]; done)), H', ⟨by have := HJ2.out; have := HK2.out; omega⟩, ⟨by (with_reducible repeat (first | apply nA | apply nN | apply nD)); exact Kd.N_mono (Kd.N_far (p := ⟨gb377, 3, none⟩) (Kd.N_far (p := ⟨gb377, 2, none⟩) (Kd.N_far (p := ⟨gb377, 1, none⟩) (Kd.N_far (p := ⟨gb377, 0, none⟩) (Kd.N_mono HO_4.out (fun k_ hk => (⟨hk, hk.2⟩ : _ ∧ k_ ≠ gb377))) (fun _ hk => hk.2) (.bool false)) (fun _ hk => hk.2) (.slice A102 y378.length c102)) (fun _ hk => hk.2) (.slice A103 y383.length c103)) (fun _ hk => hk.2) (.slice A104 y388.length c104)) (fun _ hk => ⟨hk.1.1.1, hk.1.1.2⟩)⟩, ⟨by (with_reducible repeat (first | apply vA | apply vN | apply vD)); exact Kd.V_mono (Kd.V_far (p := ⟨gb377, 3, none⟩) (Kd.V_far (p := ⟨gb377, 2, none⟩) (Kd.V_far (p := ⟨gb377, 1, none⟩) (Kd.V_far (p := ⟨gb377, 0, none⟩) (Kd.V_mono HO_368001.out (fun k_ hk => (⟨hk, hk.2⟩ : _ ∧ k_ ≠ gb377))) (fun _ hk => hk.2) (.bool false)) (fun _ hk => hk.2) (.slice A102 y378.length c102)) (fun _ hk => hk.2) (.slice A103 y383.length c103)) (fun _ hk => hk.2) (.slice A104 y388.length c104)) (fun _ hk => ⟨hk.1.1.1, ⟨hk.1.1.2.1, hk.1.1.2.2⟩⟩)⟩, ⟨by (with_reducible repeat (first | apply vA | apply vN | apply vD)); exact Kd.V_mono (Kd.V_far (p := ⟨gb377, 3, none⟩) (Kd.V_far (p := ⟨gb377, 2, none⟩) (Kd.V_far (p := ⟨gb377, 1, none⟩) (Kd.V_far (p := ⟨gb377, 0, none⟩) (Kd.V_mono HO_368002.out (fun k_ hk => (⟨hk, hk.2⟩ : _ ∧ k_ ≠ gb377))) (fun _ hk => hk.2) (.bool false)) (fun _ hk => hk.2) (.slice A102 y378.length c102)) (fun _ hk => hk.2) (.slice A103 y383.length c103)) (fun _ hk => hk.2) (.slice A104 y388.length c104)) (fun _ hk => ⟨hk.1.1.1, ⟨hk.1.1.2.1, hk.1.1.2.2⟩⟩)⟩, ⟨by (with_reducible repeat (first | apply vA | apply vN | apply vD)); exact Kd.V_mono (Kd.V_far (p := ⟨gb377, 3, none⟩) (Kd.V_far (p := ⟨gb377, 2, none⟩) (Kd.V_far (p := ⟨gb377, 1, none⟩) (Kd.V_far (p := ⟨gb377, 0, none⟩) (Kd.V_mono HO_368003.out (fun k_ hk => (⟨hk, hk.2⟩ : _ ∧ k_ ≠ gb377))) (fun _ hk => hk.2) (.bool false)) (fun _ hk => hk.2) (.slice A102 y378.length c102)) (fun _ hk => hk.2) (.slice A103 y383.length c103)) (fun _ hk => hk.2) (.slice A104 y388.length c104)) (fun _ hk => ⟨hk.1.1.1, ⟨hk.1.1.2.1, hk.1.1.2.2⟩⟩)⟩, ⟨by (with_reducible repeat (first | refine blk_drewN ?_ _ | refine blk_drew ?_ | refine blk_alloc ?_ _)); refine blk_far ?_ NB367_377.out _; (with_reducible repeat (first | refine blk_drewN ?_ _ | refine blk_drew ?_ | refine blk_alloc ?_ _)); refine blk_far ?_ NB367_377.out _; (with_reducible repeat (first | refine blk_drewN ?_ _ | refine blk_drew ?_ | refine blk_alloc ?_ _)); refine blk_far ?_ NB367_377.out _; (with_reducible repeat (first | refine blk_drewN ?_ _ | refine blk_drew ?_ | refine blk_alloc ?_ _)); refine blk_far ?_ NB367_377.out _; (with_reducible repeat (first | refine blk_drewN ?_ _ | refine blk_drew ?_ | refine blk_alloc ?_ _)); exact BK367.out⟩, ⟨by repeat (first | (with_reducible first | exact HB.out | apply below_alloc | apply pw_below_drewN | apply below_drew1 | refine below_set ?_ GE367.out | refine below_set ?_ GE377.out) | exact HB.out)⟩⟩
          ·rw [if_neg c31] at H
           exact absurd H (by simp)
         ·rw [if_neg c30] at H
          exact absurd H (by simp)
        ·rw [if_neg c29] at H
         exact absurd H (by simp)
       ·rw [if_neg c28] at H
        exact absurd H (by simp)
      ·rw [if_neg c27] at H
       have c27b0 : decide (x5_2 < (t373.length : Int)) = false := decide_eq_false c27
       clear c27
       obtain rfl := Option.some.inj H
       obtain ⟨Ao_, co_, rfl⟩ := Kd.N_slice HO_4.out
       go_wp2
       repeat (go_quiet (fail); try go_wp2)
       go_ret
       exact ⟨by first | rfl | (simp [errW_none, errW_some] <;> rfl) | (simp [*, errW_none, errW_some] <;> rfl), by repeat (first | (with_reducible first | exact HB.out | apply below_alloc | apply pw_below_drewN | apply below_drew1 | refine below_set ?_ GE367.out) | exact HB.out)⟩

end Go.Proofs.Ytiaoppikdgoieaa.M
namespace Go.Proofs.Ytiaoppikdgoieaa.M
open Go.RowKit Go.Proofs Go.Proofs.YtiaoppikdgoieaaW.PrintWords Go.Proofs.YtiaoppikdgoieaaW.PrintLast Go.Proofs.YtiaoppikdgoieaaW.PrintMore Go.Proofs.Ytiaoppikdgoieaa.Hand
set_option linter.unusedVariables false
set_option linter.unusedSimpArgs false

theorem equal52_c (a b : List ByteArray) (A0 : Option Addr) (c0 : Nat) (A1 : Option Addr) (c1 : Nat) (w : World) (hr0 : Kd.C Kd.string w A0 a.length a) (hc0 : a.length ≤ c0) (hr1 : Kd.C Kd.string w A1 b.length b) (hc1 : b.length ≤ c1) :
    Calls Try.prog 52 #[.slice A0 a.length c0, .slice A1 b.length c1] w fun e w' => e = .returned (.bool (decide (a = b))) ∧ Drawn0 w w' :=
  slices_Equal_string_string.calls _ _ _ a _ _ b _ _ hr0 hc0 hr1 hc1 (equal_f a b hr0.2.1)

set_option maxHeartbeats 1000000 in
theorem equal55_c (w : World) (A0 : Option Addr) (c0 : Nat) (l0 : List (List ByteArray)) (A1 : Option Addr) (c1 : Nat) (l1 : List (List ByteArray))
    (hr0 : Kd.C (Kd.slice 9 Kd.string) w A0 l0.length l0) (hc0 : l0.length ≤ c0) (hr1 : Kd.C (Kd.slice 9 Kd.string) w A1 l1.length l1) (hc1 : l1.length ≤ c1) :
    Calls Try.prog 55 #[.slice A0 l0.length c0, .slice A1 l1.length c1, .func (.func 52) #[] #[]] w fun e w' => e = .returned (.bool (decide (l0 = l1))) ∧ Drawn0 w w' := by
  have HR0 := Aside0.mk hr0
  have HC0 := Aside0.mk hc0
  have HR1 := Aside0.mk hr1
  have HC1 := Aside0.mk hc1
  have HL0 := Aside0.mk hr0.2.1
  have HL1 := Aside0.mk hr1.2.1
  clear hr0 hc0 hr1 hc1
  by_cases hlen : l0.length = l1.length
  · have HN := Aside0.mk hlen
    have e1 : ((l0.length : Int) != (l1.length : Int)) = false := by rw [hlen]; simp
    have e2 : (l0.length != l1.length) = false := by rw [hlen]; simp
    clear hlen
    go_enter Try.func55, Try.ntmps55
    go_wp2
    repeat (go_quiet (fail); try go_wp2)
    go_loopg [17] l0.length (fun kq v17 w' => ∃ i : Nat, v17 = .int .i64 (i : Int) ∧ Aside0 (i ≤ l0.length ∧ kq = l0.length - i) ∧ Aside0 (l0.take i = l1.take i) ∧ Drawn0 w w')
    case atStart => exact ⟨0, rfl, ⟨Nat.zero_le _, rfl⟩, ⟨by simp⟩, Drawn0.refl _⟩
    case round =>
      obtain ⟨i, rfl, HI, HA, ⟨m1, rfl⟩⟩ := hrel
      have hli := HL0.out
      by_cases c4 : i < l0.length
      · have c4b0 : decide ((i : Int) < (l0.length : Int)) = true := decide_eq_true (by omega)
        have c4b1 : decide (i < l0.length) = true := decide_eq_true c4
        have c5 : i < l1.length := by have := HN.out; omega
        have c5b1 : decide (i < l1.length) = true := decide_eq_true c5
        obtain ⟨z, g0⟩ : ∃ z, l0[i]? = some z := ⟨_, List.getElem?_eq_getElem c4⟩
        obtain ⟨y, g1⟩ : ∃ y, l1[i]? = some y := ⟨_, List.getElem?_eq_getElem c5⟩
        obtain ⟨ad, A2, c2, rfl, hx, hl, hi⟩ := C_row HR0.out i z g0
        obtain ⟨ae, A3, c3, rfl, hy, hm, hj⟩ := C_row HR1.out i y g1
        have HS0 := Aside0.mk (take_snoc l0 i z g0)
        have HS1 := Aside0.mk (take_snoc l1 i y g1)
        have G0 := Aside0.mk g0
        have G1 := Aside0.mk g1
        have HR2 := Aside0.mk hi
        have HC2 := Aside0.mk hl
        have HR3 := Aside0.mk hj
        have HC3 := Aside0.mk hm
        clear hi hl hj hm g0 g1
        have bi : (i : Int) < 9223372036854775807 := by omega
        by_cases hp : z = y
        · have HD : Aside0 (decide (z = y) = true) := ⟨decide_eq_true hp⟩
          have HP := Aside0.mk hp
          clear hp
          go_wp2_with (go_at_call 52; (with_reducible refine (equal52_c z y _ _ _ _ _ ?sa ?sb ?sc ?sd).mono ?_); (case sa => with_reducible exact Kd.C_drewN HR2.out _); (case sb => exact HC2.out); (case sc => with_reducible exact Kd.C_drewN HR3.out _); (case sd => exact HC3.out); rintro e w' ⟨he, ⟨nd, rfl⟩⟩; rw [HD.out] at he; subst he)
          go_roundg (l0.length - (i + 1))
          case measure => have := HI.out; omega
          case rel => exact ⟨i + 1, by go_num, ⟨by omega, rfl⟩, ⟨by rw [HS0.out, HS1.out, HA.out, HP.out]⟩, ⟨⟨_, rfl⟩⟩⟩
        · have HD : Aside0 (decide (z = y) = false) := ⟨decide_eq_false hp⟩
          have HP := Aside0.mk hp
          clear hp
          go_wp2_with (go_at_call 52; (with_reducible refine (equal52_c z y _ _ _ _ _ ?sa ?sb ?sc ?sd).mono ?_); (case sa => with_reducible exact Kd.C_drewN HR2.out _); (case sb => exact HC2.out); (case sc => with_reducible exact Kd.C_drewN HR3.out _); (case sd => exact HC3.out); rintro e w' ⟨he, ⟨nd, rfl⟩⟩; rw [HD.out] at he; subst he)
          go_ret
          exact ⟨by rw [decide_eq_false (fun e => HP.out (by have h0 := G0.out; have h1 := G1.out; rw [e, h1] at h0; exact (Option.some.inj h0).symm))]; rfl, ⟨⟨_, rfl⟩⟩⟩
      · have c4b0 : decide ((i : Int) < (l0.length : Int)) = false := decide_eq_false (by omega)
        have c4b1 : decide (i < l0.length) = false := decide_eq_false c4
        have HQ : Aside0 (l0 = l1) := ⟨by
          have := HA.out
          rwa [List.take_of_length_le (by omega), List.take_of_length_le (by have := HN.out; omega)] at this⟩
        go_wp2
        repeat (go_quiet (fail); try go_wp2)
        go_ret
        exact ⟨by rw [decide_eq_true HQ.out]; rfl, ⟨⟨_, rfl⟩⟩⟩
  · have HN := Aside0.mk hlen
    have e1 : ((l0.length : Int) != (l1.length : Int)) = true := bne_iff_ne.mpr (by omega)
    have e2 : (l0.length != l1.length) = true := bne_iff_ne.mpr hlen
    clear hlen
    go_enter Try.func55, Try.ntmps55
    go_wp2
    repeat (go_quiet (fail); try go_wp2)
    go_ret
    exact ⟨by rw [decide_eq_false (fun e => HN.out (by rw [e]))]; rfl, Drawn0.refl _⟩

def sameP (x y : S27) : Bool := decide (x.f0 = y.f0) && (decide (x.f1 = y.f1) && (decide (x.f2 = y.f2) && decide (x.f3 = y.f3)))
theorem sameP_iff (x y : S27) : sameP x y = true ↔ x = y := by
  cases x; cases y
  simp [sameP]

set_option maxHeartbeats 4000000 in
set_option maxRecDepth 100000 in
theorem same54_c (W : World) (p : Addr) (b0 b1 : Bool) (T0 T1 B0 B1 : List ByteArray) (S0 S1 : List (List ByteArray)) (a1 a2 a3 e1 e2 e3 : Option Addr) (c1 c2 c3 d1 d2 d3 : Nat)
    (hp : W.cell? p = some (.func (.func 52) #[] #[])) (hpl : p.block < W.heap.size)
    (ha1 : Kd.C Kd.string W a1 T0.length T0) (la1 : T0.length ≤ c1) (ha2 : Kd.C Kd.string W a2 B0.length B0) (la2 : B0.length ≤ c2) (ha3 : Kd.C (Kd.slice 9 Kd.string) W a3 S0.length S0) (la3 : S0.length ≤ c3)
    (he1 : Kd.C Kd.string W e1 T1.length T1) (le1 : T1.length ≤ d1) (he2 : Kd.C Kd.string W e2 B1.length B1) (le2 : B1.length ≤ d2) (he3 : Kd.C (Kd.slice 9 Kd.string) W e3 S1.length S1) (le3 : S1.length ≤ d3) :
    Calls Try.prog 54 #[.agg #[.bool b0, .slice a1 T0.length c1, .slice a2 B0.length c2, .slice a3 S0.length c3], .agg #[.bool b1, .slice e1 T1.length d1, .slice e2 B1.length d2, .slice e3 S1.length d3], .pointer (some p)] W
      fun e w' => e = .returned (.bool (sameP ⟨b0, T0, B0, S0⟩ ⟨b1, T1, B1, S1⟩)) ∧ Below W.heap.size W w' := by
  obtain ⟨W2, hW2⟩ : ∃ W2, (W.alloc (.cells #[.bool b0, .slice a1 T0.length c1, .slice a2 B0.length c2, .slice a3 S0.length c3] 27)).alloc (.cells #[.bool b1, .slice e1 T1.length d1, .slice e2 B1.length d2, .slice e3 S1.length d3] 27) = W2 := ⟨_, rfl⟩
  have hBW : Below W.heap.size W W2 := by rw [← hW2]; exact below_alloc (below_alloc (Below.refl _ _) _) _
  have HB := Aside0.mk hBW
  have HA1 := Aside0.mk (Kd.C_below ha1 hBW)
  have HA2 := Aside0.mk (Kd.C_below ha2 hBW)
  have HA3 := Aside0.mk (Kd.C_below ha3 hBW)
  have HE1 := Aside0.mk (Kd.C_below he1 hBW)
  have HE2 := Aside0.mk (Kd.C_below he2 hBW)
  have HE3 := Aside0.mk (Kd.C_below he3 hBW)
  have L := Aside0.mk (And.intro la1 (And.intro la2 (And.intro la3 (And.intro le1 (And.intro le2 le3)))))
  have hp2 : W2.cell? p = some (.func (.func 52) #[] #[]) := (hBW.cell hpl).trans hp
  have hq0 : W2.heap[W.heap.size]? = some (.cells #[.bool b0, .slice a1 T0.length c1, .slice a2 B0.length c2, .slice a3 S0.length c3] 27 (0, 0)) := by
    rw [← hW2]; exact blk_later (Go.heap_alloc_new W _) (below_alloc (Below.refl _ _) _)
  have hq1 : W2.heap[W.heap.size + 1]? = some (.cells #[.bool b1, .slice e1 T1.length d1, .slice e2 B1.length d2, .slice e3 S1.length d3] 27 (0, 0)) := by
    rw [← hW2]
    have := Go.heap_alloc_new (W.alloc (.cells #[.bool b0, .slice a1 T0.length c1, .slice a2 B0.length c2, .slice a3 S0.length c3] 27)) (.cells #[.bool b1, .slice e1 T1.length d1, .slice e2 B1.length d2, .slice e3 S1.length d3] 27)
    rw [World.size_alloc] at this
    exact this
  have k00 := blk_cell hq0 0
  have k01 := blk_cell hq0 1
  have k02 := blk_cell hq0 2
  have k03 := blk_cell hq0 3
  have k10 := blk_cell hq1 0
  have k11 := blk_cell hq1 1
  have k12 := blk_cell hq1 2
  have k13 := blk_cell hq1 3
  simp only [List.getElem?_toArray, List.getElem?_cons_zero, List.getElem?_cons_succ] at k00 k01 k02 k03 k10 k11 k12 k13
  clear ha1 ha2 ha3 he1 he2 he3 la1 la2 la3 le1 le2 le3 hBW hq0 hq1 hp
  have key : Aside0 (sameP ⟨b0, T0, B0, S0⟩ ⟨b1, T1, B1, S1⟩ = (decide (b0 = b1) && (decide (T0 = T1) && (decide (B0 = B1) && decide (S0 = S1))))) := ⟨rfl⟩
  obtain ⟨s3, h3⟩ : ∃ s3, s3 = decide (S0 = S1) := ⟨_, rfl⟩
  obtain ⟨s1, h1⟩ : ∃ s1, s1 = decide (T0 = T1) := ⟨_, rfl⟩
  obtain ⟨s2, h2⟩ : ∃ s2, s2 = decide (B0 = B1) := ⟨_, rfl⟩
  rw [key.out, ← h1, ← h2, ← h3]
  have H1 := Aside0.mk h1
  have H2 := Aside0.mk h2
  have H3 := Aside0.mk h3
  clear h1 h2 h3 key
  cases b0 <;> cases b1 <;> cases s1 <;> cases s2
  all_goals
    go_enter Try.func54, Try.ntmps54
    go_wp2_with (first
      | (go_at_call 55; (with_reducible refine (equal55_c _ a3 c3 S0 e3 d3 S1 HA3.out L.out.2.2.1 HE3.out L.out.2.2.2.2.2).mono ?_); rintro e w' ⟨he, ⟨nd, rfl⟩⟩; rw [← H3.out] at he; subst he)
      | (go_at_call 52; (with_reducible refine (equal52_c T0 T1 a1 c1 e1 d1 _ ?sa ?sb ?sc ?sd).mono ?_); (case sa => with_reducible exact Kd.C_drewN HA1.out _); (case sb => exact L.out.1); (case sc => with_reducible exact Kd.C_drewN HE1.out _); (case sd => exact L.out.2.2.2.1); rintro e w' ⟨he, ⟨nd1, rfl⟩⟩; rw [← H1.out] at he; subst he)
      | (go_at_call 52; (with_reducible refine (equal52_c B0 B1 a2 c2 e2 d2 _ ?sa ?sb ?sc ?sd).mono ?_); (case sa => with_reducible exact Kd.C_drewN HA2.out _); (case sb => exact L.out.2.1); (case sc => with_reducible exact Kd.C_drewN HE2.out _); (case sd => exact L.out.2.2.2.2.1); rintro e w' ⟨he, ⟨nd2, rfl⟩⟩; rw [← H2.out] at he; subst he))
    go_ret
    exact ⟨by first | rfl | simp, by repeat (first | exact HB.out | apply pw_below_drewN)⟩

end Go.Proofs.Ytiaoppikdgoieaa.M
