/- Texts of the claim AlignUnique, put together (part 9): By a program of this session: a Go function as a Lean function, and that the machine's call does what it says. Layer 5, plain: the chunks of matches cover all, take turns, and pair as the matches do; there is one such list. Layer 5, plain: what the printed functions of the references answer. Layer 5, plain: matches may be; the chunks that cut tells; what covers tells. Layer 5, plain: what covers tells. Layer 5, plain: how long, and how great, what cut tells is. Layer 5, plain: what is known of each chunk. -/
import Derived.ArgAppend
import Derived.Below
import Derived.BigQuiet
import Derived.Deep.AppendLies
import Derived.Deep.CutBlock
import Derived.Deep.DeepCutAuto
import Derived.Deep.DrawnRows
import Derived.Deep.Draws
import Derived.Deep.LoopGhost
import Derived.Deep.OwnRows
import Derived.Deep.QuietTactic
import Derived.Deep.RegionHeld3
import Derived.KernelRfl
import Derived.Laws.BitsLemmas
import Derived.Laws.BytesArg
import Derived.Laws.IdiomCopy
import Derived.Laws.MakeOwn
import Derived.Laws.OwnMore
import Derived.Laws.Rows
import Derived.Laws.Slices
import Derived.Laws.StructEq
import Derived.Lib.AppendStr
import Derived.Lib.ConvBytes
import Derived.Maps.AppendAt
import Derived.OrdersHeld
import Derived.OwnWalk
import Derived.RowKit
import Derived.RowKit3
import Derived.Tactics
import Derived.Test.YtnebadlakmlkkaaProg
import Derived.WalkKit
import Derived.WalkMore
import Derived.WideLaws
import Derived.Test.YtnebadlakmlkkaaAlignUniqueQ8
namespace Go.Proofs.Ytnebadlakmlkkaa.M
open Go.RowKit Go.Proofs.YtnebadlakmlkkaaW.PrintWords Go.Proofs.YtnebadlakmlkkaaW.PrintLast Go.Proofs.YtnebadlakmlkkaaW.PrintMore
attribute [local go_sem] max2_int min2_int max_two min_two max_three min_three max_four min_four
set_option linter.unusedVariables false
set_option linter.unusedSimpArgs false

/-! ### sennitlaw05_AlignUnique: function 5 -/
mutual
def sennitlaw05_AlignUnique.j0 : Nat → List Int → List (List Int) → List (S39) → Bool → Bool → Option (Bool)
  | 0, _, _, _, _, _ => none
  | k + 1, x0, x1, x2, x7, x24 => if x24 = true then (some x7) else ((sennitref03_Ints.f k x0).bind fun t278 => ((sennitref05_Lists.f k x1).bind fun t281 => ((sennitref05_Matches.f k t278 t281).bind fun bt284 => ((sennitlaw05_covers.f k x2 (x0.length : Int) bt284.1).bind fun t290 => (sennitlaw05_AlignUnique.l0 k x0 x1 x2 x7 bt284.2 t290 0)))))
def sennitlaw05_AlignUnique.l0 : Nat → List Int → List (List Int) → List (S39) → Bool → List (List Int) → Bool → Int → Option (Bool)
  | 0, _, _, _, _, _, _, _ => none
  | k + 1, x0, x1, x2, x7, x9, x10, x11 => if x10 = true then (sennitlaw05_AlignUnique.j2 k x0 x1 x2 x7 x9 x10 x11 (decide (x11 < (x2.length : Int)))) else (sennitlaw05_AlignUnique.j2 k x0 x1 x2 x7 x9 x10 x11 false)
def sennitlaw05_AlignUnique.j2 : Nat → List Int → List (List Int) → List (S39) → Bool → List (List Int) → Bool → Int → Bool → Option (Bool)
  | 0, _, _, _, _, _, _, _, _ => none
  | k + 1, x0, x1, x2, x7, x9, x10, x11, x45 => if x45 = true then (if 0 ≤ x11 then (if x11 < (x2.length : Int) then (sennitlaw05_AlignUnique.l1 k x0 x1 x2 x7 x9 x10 x11 ((rd_T39 x2 x11).f1.f0)) else (none)) else (none)) else (if x7 = true then ((sennitlaw05_cut.f k x0 x1).bind fun t291 => ((sennitref05_Same.f k x2 t291).bind fun t294 => (some (x10 == t294)))) else (some false))
def sennitlaw05_AlignUnique.l1 : Nat → List Int → List (List Int) → List (S39) → Bool → List (List Int) → Bool → Int → Int → Option (Bool)
  | 0, _, _, _, _, _, _, _, _ => none
  | k + 1, x0, x1, x2, x7, x9, x10, x11, x12 => if 0 ≤ x11 then (if x11 < (x2.length : Int) then (if x12 < ((rd_T39 x2 x11).f1.f1) then (sennitlaw05_AlignUnique.l2 k x0 x1 x2 x7 x9 x10 x11 x12 true 0) else (sennitlaw05_AlignUnique.l0 k x0 x1 x2 x7 x9 x10 (wrap64 (x11 + 1)))) else (none)) else (none)
def sennitlaw05_AlignUnique.l2 : Nat → List Int → List (List Int) → List (S39) → Bool → List (List Int) → Bool → Int → Int → Bool → Int → Option (Bool)
  | 0, _, _, _, _, _, _, _, _, _, _ => none
  | k + 1, x0, x1, x2, x7, x9, x10, x11, x12, x13, x14 => if x14 < (x9.length : Int) then (if x13 = true then (if 0 ≤ x14 then (if 0 ≤ x12 then (if x12 < ((rd_L1 x9 x14).length : Int) then (if x10 = true then (if 0 ≤ x11 then (if x11 < (x2.length : Int) then (if ((rd_T39 x2 x11).f0 = true) then (if x14 < (((rd_T39 x2 x11).f2).length : Int) then (sennitlaw05_AlignUnique.l2 k x0 x1 x2 x7 x9 ((rd (rd_L1 x9 x14) x12) == (wrap64 ((wrap64 (((rd_T36 ((rd_T39 x2 x11).f2) x14).f0) + x12)) - ((rd_T39 x2 x11).f1.f0)))) x11 x12 (decide ((rd (rd_L1 x9 x14) x12) ≥ 0)) (wrap64 (x14 + 1))) else (none)) else (sennitlaw05_AlignUnique.l2 k x0 x1 x2 x7 x9 true x11 x12 (decide ((rd (rd_L1 x9 x14) x12) ≥ 0)) (wrap64 (x14 + 1)))) else (none)) else (none)) else (sennitlaw05_AlignUnique.l2 k x0 x1 x2 x7 x9 false x11 x12 (decide ((rd (rd_L1 x9 x14) x12) ≥ 0)) (wrap64 (x14 + 1)))) else (none)) else (none)) else (none)) else (if x10 = true then (if 0 ≤ x11 then (if x11 < (x2.length : Int) then (if ((rd_T39 x2 x11).f0 = true) then (if 0 ≤ x14 then (if 0 ≤ x12 then (if x12 < ((rd_L1 x9 x14).length : Int) then (if x14 < (((rd_T39 x2 x11).f2).length : Int) then (sennitlaw05_AlignUnique.l2 k x0 x1 x2 x7 x9 ((rd (rd_L1 x9 x14) x12) == (wrap64 ((wrap64 (((rd_T36 ((rd_T39 x2 x11).f2) x14).f0) + x12)) - ((rd_T39 x2 x11).f1.f0)))) x11 x12 false (wrap64 (x14 + 1))) else (none)) else (none)) else (none)) else (none)) else (sennitlaw05_AlignUnique.l2 k x0 x1 x2 x7 x9 true x11 x12 false (wrap64 (x14 + 1)))) else (none)) else (none)) else (sennitlaw05_AlignUnique.l2 k x0 x1 x2 x7 x9 false x11 x12 false (wrap64 (x14 + 1))))) else (if x10 = true then (if 0 ≤ x11 then (if x11 < (x2.length : Int) then (sennitlaw05_AlignUnique.l1 k x0 x1 x2 x7 x9 (x13 == ((rd_T39 x2 x11).f0)) x11 (wrap64 (x12 + 1))) else (none)) else (none)) else (sennitlaw05_AlignUnique.l1 k x0 x1 x2 x7 x9 false x11 (wrap64 (x12 + 1))))
end
def sennitlaw05_AlignUnique.f (k : Nat) (l0 : List Int) (l1 : List (List Int)) (l2 : List (S39)) : Option (Bool) := (sennitlaw05_awake.f k).bind fun t276 => ((sennitref05_Few.f k l0 l1).bind fun t277 => (if t277 = true then (sennitlaw05_AlignUnique.j0 k l0 l1 l2 t276 (decide ((l2.length : Int) > 100))) else (sennitlaw05_AlignUnique.j0 k l0 l1 l2 t276 true)))
theorem sennitlaw05_AlignUnique.mono_l : ∀ k, (∀ y0 y1 y2 y3 y4, LeO (sennitlaw05_AlignUnique.j0 k y0 y1 y2 y3 y4) (sennitlaw05_AlignUnique.j0 (k + 1) y0 y1 y2 y3 y4)) ∧ (∀ y0 y1 y2 y3 y4 y5 y6, LeO (sennitlaw05_AlignUnique.l0 k y0 y1 y2 y3 y4 y5 y6) (sennitlaw05_AlignUnique.l0 (k + 1) y0 y1 y2 y3 y4 y5 y6)) ∧ (∀ y0 y1 y2 y3 y4 y5 y6 y7, LeO (sennitlaw05_AlignUnique.j2 k y0 y1 y2 y3 y4 y5 y6 y7) (sennitlaw05_AlignUnique.j2 (k + 1) y0 y1 y2 y3 y4 y5 y6 y7)) ∧ (∀ y0 y1 y2 y3 y4 y5 y6 y7, LeO (sennitlaw05_AlignUnique.l1 k y0 y1 y2 y3 y4 y5 y6 y7) (sennitlaw05_AlignUnique.l1 (k + 1) y0 y1 y2 y3 y4 y5 y6 y7)) ∧ (∀ y0 y1 y2 y3 y4 y5 y6 y7 y8 y9, LeO (sennitlaw05_AlignUnique.l2 k y0 y1 y2 y3 y4 y5 y6 y7 y8 y9) (sennitlaw05_AlignUnique.l2 (k + 1) y0 y1 y2 y3 y4 y5 y6 y7 y8 y9))
  | 0 => ⟨fun _ _ _ _ _ r h => by simp [sennitlaw05_AlignUnique.j0] at h, fun _ _ _ _ _ _ _ r h => by simp [sennitlaw05_AlignUnique.l0] at h, fun _ _ _ _ _ _ _ _ r h => by simp [sennitlaw05_AlignUnique.j2] at h, fun _ _ _ _ _ _ _ _ r h => by simp [sennitlaw05_AlignUnique.l1] at h, fun _ _ _ _ _ _ _ _ _ _ r h => by simp [sennitlaw05_AlignUnique.l2] at h⟩
  | k + 1 => by
    obtain ⟨ih0, ih1, ih2, ih3, ih4⟩ := sennitlaw05_AlignUnique.mono_l k
    refine ⟨?_, ?_, ?_, ?_, ?_⟩
    · intro y0 y1 y2 y3 y4
      unfold sennitlaw05_AlignUnique.j0
      repeat' first
      | (with_reducible exact ih0 _ _ _ _ _)
      | (with_reducible exact ih1 _ _ _ _ _ _ _)
      | (with_reducible exact ih2 _ _ _ _ _ _ _ _)
      | (with_reducible exact ih3 _ _ _ _ _ _ _ _)
      | (with_reducible exact ih4 _ _ _ _ _ _ _ _ _ _)
      | (with_reducible exact sennitlaw05_awake.mono _)
      | (with_reducible exact sennitlaw05_covers.mono _ _ _ _)
      | (with_reducible exact sennitlaw05_cut.mono _ _ _)
      | (with_reducible exact sennitref03_Ints.mono _ _)
      | (with_reducible exact sennitref05_Few.mono _ _ _)
      | (with_reducible exact sennitref05_Lists.mono _ _)
      | (with_reducible exact sennitref05_Matches.mono _ _ _)
      | (with_reducible exact sennitref05_Same.mono _ _ _)
      | (with_reducible exact LeO.refl _)
      | (with_reducible exact LeO.none _)
      | (with_reducible refine LeO.ite ?_ ?_)
      | (with_reducible refine LeO.bind ?_ (fun _ => ?_))
      | exact ih0 _ _ _ _ _
      | exact ih1 _ _ _ _ _ _ _
      | exact ih2 _ _ _ _ _ _ _ _
      | exact ih3 _ _ _ _ _ _ _ _
      | exact ih4 _ _ _ _ _ _ _ _ _ _
      | exact sennitlaw05_awake.mono _
      | exact sennitlaw05_covers.mono _ _ _ _
      | exact sennitlaw05_cut.mono _ _ _
      | exact sennitref03_Ints.mono _ _
      | exact sennitref05_Few.mono _ _ _
      | exact sennitref05_Lists.mono _ _
      | exact sennitref05_Matches.mono _ _ _
      | exact sennitref05_Same.mono _ _ _
      | exact LeO.none _
      | refine LeO.ite ?_ ?_
      | refine LeO.bind ?_ (fun _ => ?_)
    · intro y0 y1 y2 y3 y4 y5 y6
      unfold sennitlaw05_AlignUnique.l0
      repeat' first
      | (with_reducible exact ih0 _ _ _ _ _)
      | (with_reducible exact ih1 _ _ _ _ _ _ _)
      | (with_reducible exact ih2 _ _ _ _ _ _ _ _)
      | (with_reducible exact ih3 _ _ _ _ _ _ _ _)
      | (with_reducible exact ih4 _ _ _ _ _ _ _ _ _ _)
      | (with_reducible exact sennitlaw05_awake.mono _)
      | (with_reducible exact sennitlaw05_covers.mono _ _ _ _)
      | (with_reducible exact sennitlaw05_cut.mono _ _ _)
      | (with_reducible exact sennitref03_Ints.mono _ _)
      | (with_reducible exact sennitref05_Few.mono _ _ _)
      | (with_reducible exact sennitref05_Lists.mono _ _)
      | (with_reducible exact sennitref05_Matches.mono _ _ _)
      | (with_reducible exact sennitref05_Same.mono _ _ _)
      | (with_reducible exact LeO.refl _)
      | (with_reducible exact LeO.none _)
      | (with_reducible refine LeO.ite ?_ ?_)
      | (with_reducible refine LeO.bind ?_ (fun _ => ?_))
      | exact ih0 _ _ _ _ _
      | exact ih1 _ _ _ _ _ _ _
      | exact ih2 _ _ _ _ _ _ _ _
      | exact ih3 _ _ _ _ _ _ _ _
      | exact ih4 _ _ _ _ _ _ _ _ _ _
      | exact sennitlaw05_awake.mono _
      | exact sennitlaw05_covers.mono _ _ _ _
      | exact sennitlaw05_cut.mono _ _ _
      | exact sennitref03_Ints.mono _ _
      | exact sennitref05_Few.mono _ _ _
      | exact sennitref05_Lists.mono _ _
      | exact sennitref05_Matches.mono _ _ _
      | exact sennitref05_Same.mono _ _ _
      | exact LeO.none _
      | refine LeO.ite ?_ ?_
      | refine LeO.bind ?_ (fun _ => ?_)
    · intro y0 y1 y2 y3 y4 y5 y6 y7
      unfold sennitlaw05_AlignUnique.j2
      repeat' first
      | (with_reducible exact ih0 _ _ _ _ _)
      | (with_reducible exact ih1 _ _ _ _ _ _ _)
      | (with_reducible exact ih2 _ _ _ _ _ _ _ _)
      | (with_reducible exact ih3 _ _ _ _ _ _ _ _)
      | (with_reducible exact ih4 _ _ _ _ _ _ _ _ _ _)
      | (with_reducible exact sennitlaw05_awake.mono _)
      | (with_reducible exact sennitlaw05_covers.mono _ _ _ _)
      | (with_reducible exact sennitlaw05_cut.mono _ _ _)
      | (with_reducible exact sennitref03_Ints.mono _ _)
      | (with_reducible exact sennitref05_Few.mono _ _ _)
      | (with_reducible exact sennitref05_Lists.mono _ _)
      | (with_reducible exact sennitref05_Matches.mono _ _ _)
      | (with_reducible exact sennitref05_Same.mono _ _ _)
      | (with_reducible exact LeO.refl _)
      | (with_reducible exact LeO.none _)
      | (with_reducible refine LeO.ite ?_ ?_)
      | (with_reducible refine LeO.bind ?_ (fun _ => ?_))
      | exact ih0 _ _ _ _ _
      | exact ih1 _ _ _ _ _ _ _
      | exact ih2 _ _ _ _ _ _ _ _
      | exact ih3 _ _ _ _ _ _ _ _
      | exact ih4 _ _ _ _ _ _ _ _ _ _
      | exact sennitlaw05_awake.mono _
      | exact sennitlaw05_covers.mono _ _ _ _
      | exact sennitlaw05_cut.mono _ _ _
      | exact sennitref03_Ints.mono _ _
      | exact sennitref05_Few.mono _ _ _
      | exact sennitref05_Lists.mono _ _
      | exact sennitref05_Matches.mono _ _ _
      | exact sennitref05_Same.mono _ _ _
      | exact LeO.none _
      | refine LeO.ite ?_ ?_
      | refine LeO.bind ?_ (fun _ => ?_)
    · intro y0 y1 y2 y3 y4 y5 y6 y7
      unfold sennitlaw05_AlignUnique.l1
      repeat' first
      | (with_reducible exact ih0 _ _ _ _ _)
      | (with_reducible exact ih1 _ _ _ _ _ _ _)
      | (with_reducible exact ih2 _ _ _ _ _ _ _ _)
      | (with_reducible exact ih3 _ _ _ _ _ _ _ _)
      | (with_reducible exact ih4 _ _ _ _ _ _ _ _ _ _)
      | (with_reducible exact sennitlaw05_awake.mono _)
      | (with_reducible exact sennitlaw05_covers.mono _ _ _ _)
      | (with_reducible exact sennitlaw05_cut.mono _ _ _)
      | (with_reducible exact sennitref03_Ints.mono _ _)
      | (with_reducible exact sennitref05_Few.mono _ _ _)
      | (with_reducible exact sennitref05_Lists.mono _ _)
      | (with_reducible exact sennitref05_Matches.mono _ _ _)
      | (with_reducible exact sennitref05_Same.mono _ _ _)
      | (with_reducible exact LeO.refl _)
      | (with_reducible exact LeO.none _)
      | (with_reducible refine LeO.ite ?_ ?_)
      | (with_reducible refine LeO.bind ?_ (fun _ => ?_))
      | exact ih0 _ _ _ _ _
      | exact ih1 _ _ _ _ _ _ _
      | exact ih2 _ _ _ _ _ _ _ _
      | exact ih3 _ _ _ _ _ _ _ _
      | exact ih4 _ _ _ _ _ _ _ _ _ _
      | exact sennitlaw05_awake.mono _
      | exact sennitlaw05_covers.mono _ _ _ _
      | exact sennitlaw05_cut.mono _ _ _
      | exact sennitref03_Ints.mono _ _
      | exact sennitref05_Few.mono _ _ _
      | exact sennitref05_Lists.mono _ _
      | exact sennitref05_Matches.mono _ _ _
      | exact sennitref05_Same.mono _ _ _
      | exact LeO.none _
      | refine LeO.ite ?_ ?_
      | refine LeO.bind ?_ (fun _ => ?_)
    · intro y0 y1 y2 y3 y4 y5 y6 y7 y8 y9
      unfold sennitlaw05_AlignUnique.l2
      repeat' first
      | (with_reducible exact ih0 _ _ _ _ _)
      | (with_reducible exact ih1 _ _ _ _ _ _ _)
      | (with_reducible exact ih2 _ _ _ _ _ _ _ _)
      | (with_reducible exact ih3 _ _ _ _ _ _ _ _)
      | (with_reducible exact ih4 _ _ _ _ _ _ _ _ _ _)
      | (with_reducible exact sennitlaw05_awake.mono _)
      | (with_reducible exact sennitlaw05_covers.mono _ _ _ _)
      | (with_reducible exact sennitlaw05_cut.mono _ _ _)
      | (with_reducible exact sennitref03_Ints.mono _ _)
      | (with_reducible exact sennitref05_Few.mono _ _ _)
      | (with_reducible exact sennitref05_Lists.mono _ _)
      | (with_reducible exact sennitref05_Matches.mono _ _ _)
      | (with_reducible exact sennitref05_Same.mono _ _ _)
      | (with_reducible exact LeO.refl _)
      | (with_reducible exact LeO.none _)
      | (with_reducible refine LeO.ite ?_ ?_)
      | (with_reducible refine LeO.bind ?_ (fun _ => ?_))
      | exact ih0 _ _ _ _ _
      | exact ih1 _ _ _ _ _ _ _
      | exact ih2 _ _ _ _ _ _ _ _
      | exact ih3 _ _ _ _ _ _ _ _
      | exact ih4 _ _ _ _ _ _ _ _ _ _
      | exact sennitlaw05_awake.mono _
      | exact sennitlaw05_covers.mono _ _ _ _
      | exact sennitlaw05_cut.mono _ _ _
      | exact sennitref03_Ints.mono _ _
      | exact sennitref05_Few.mono _ _ _
      | exact sennitref05_Lists.mono _ _
      | exact sennitref05_Matches.mono _ _ _
      | exact sennitref05_Same.mono _ _ _
      | exact LeO.none _
      | refine LeO.ite ?_ ?_
      | refine LeO.bind ?_ (fun _ => ?_)
theorem sennitlaw05_AlignUnique.mono : ∀ a0 a1 a2 k, LeO (sennitlaw05_AlignUnique.f k a0 a1 a2) (sennitlaw05_AlignUnique.f (k + 1) a0 a1 a2) := by
  intro a0 a1 a2 k
  obtain ⟨ih0, ih1, ih2, ih3, ih4⟩ := sennitlaw05_AlignUnique.mono_l k
  unfold sennitlaw05_AlignUnique.f
  repeat' first
      | (with_reducible exact ih0 _ _ _ _ _)
      | (with_reducible exact ih1 _ _ _ _ _ _ _)
      | (with_reducible exact ih2 _ _ _ _ _ _ _ _)
      | (with_reducible exact ih3 _ _ _ _ _ _ _ _)
      | (with_reducible exact ih4 _ _ _ _ _ _ _ _ _ _)
      | (with_reducible exact sennitlaw05_awake.mono _)
      | (with_reducible exact sennitlaw05_covers.mono _ _ _ _)
      | (with_reducible exact sennitlaw05_cut.mono _ _ _)
      | (with_reducible exact sennitref03_Ints.mono _ _)
      | (with_reducible exact sennitref05_Few.mono _ _ _)
      | (with_reducible exact sennitref05_Lists.mono _ _)
      | (with_reducible exact sennitref05_Matches.mono _ _ _)
      | (with_reducible exact sennitref05_Same.mono _ _ _)
      | (with_reducible exact LeO.refl _)
      | (with_reducible exact LeO.none _)
      | (with_reducible refine LeO.ite ?_ ?_)
      | (with_reducible refine LeO.bind ?_ (fun _ => ?_))
      | exact ih0 _ _ _ _ _
      | exact ih1 _ _ _ _ _ _ _
      | exact ih2 _ _ _ _ _ _ _ _
      | exact ih3 _ _ _ _ _ _ _ _
      | exact ih4 _ _ _ _ _ _ _ _ _ _
      | exact sennitlaw05_awake.mono _
      | exact sennitlaw05_covers.mono _ _ _ _
      | exact sennitlaw05_cut.mono _ _ _
      | exact sennitref03_Ints.mono _ _
      | exact sennitref05_Few.mono _ _ _
      | exact sennitref05_Lists.mono _ _
      | exact sennitref05_Matches.mono _ _ _
      | exact sennitref05_Same.mono _ _ _
      | exact LeO.none _
      | refine LeO.ite ?_ ?_
      | refine LeO.bind ?_ (fun _ => ?_)
set_option maxHeartbeats 8000000 in
set_option maxRecDepth 100000 in
theorem sennitlaw05_AlignUnique.calls (k : Nat) (A0 : Option Addr) (c0 : Nat) (l0 : List Int) (A1 : Option Addr) (c1 : Nat) (l1 : List (List Int)) (A2 : Option Addr) (c2 : Nat) (l2 : List (S39)) (r : Bool) (w : World) (hr0 : Kd.C (Kd.int .u8) w A0 l0.length l0) (hc0 : l0.length ≤ c0) (hr1 : Kd.C (Kd.slice 5 (Kd.int .u8)) w A1 l1.length l1) (hc1 : l1.length ≤ c1) (hr2 : Kd.C k39 w A2 l2.length l2) (hc2 : l2.length ≤ c2) (h : sennitlaw05_AlignUnique.f k l0 l1 l2 = some r) :
    Calls Try.prog 5 #[.slice A0 l0.length c0, .slice A1 l1.length c1, .slice A2 l2.length c2] w fun e w' => e = .returned (.bool r) ∧ Below w.heap.size w w' := by
  have HR0 := Aside0.mk hr0
  have HC0 := Aside0.mk hc0
  clear hr0 hc0
  have HR1 := Aside0.mk hr1
  have HC1 := Aside0.mk hc1
  clear hr1 hc1
  have HR2 := Aside0.mk hr2
  have HC2 := Aside0.mk hc2
  clear hr2 hc2
  have HB := Aside0.mk (Below.refl w.heap.size w)
  have H : ((sennitlaw05_awake.f k).bind fun t276 => ((sennitref05_Few.f k l0 l1).bind fun t277 => (if t277 = true then (sennitlaw05_AlignUnique.j0 k l0 l1 l2 t276 (decide ((l2.length : Int) > 100))) else (sennitlaw05_AlignUnique.j0 k l0 l1 l2 t276 true)))) = some r := h
  clear h
  replace H := Option.bind_eq_some_iff.mp H
  obtain ⟨t276, A40, H⟩ := H
  replace H : ((sennitref05_Few.f k l0 l1).bind fun t277 => (if t277 = true then (sennitlaw05_AlignUnique.j0 k l0 l1 l2 t276 (decide ((l2.length : Int) > 100))) else (sennitlaw05_AlignUnique.j0 k l0 l1 l2 t276 true))) = some r := H
  have A4 := Aside0.mk A40
  clear A40
  have HC5 := Aside0.mk H
  clear H
  go_enter Try.func5, Try.ntmps5
  go_upto_region 2 with (first | (go_at_call 14; (with_reducible refine (sennitlaw05_awake.calls k  t276 _ A4.out).mono ?_); rintro e w6 ⟨rfl, hb⟩; have n0_ := Aside0.mk (below_step (by repeat (first | (with_reducible first | exact HB.out | apply below_alloc | apply pw_below_drewN | apply below_drew1) | exact HB.out)) hb); clear HB; have HB := n0_; clear n0_; (try clear hb); (try clear hb2); (try clear hk); (try clear hi)))
  repeat (go_quiet (first | (go_at_call 14; (with_reducible refine (sennitlaw05_awake.calls k  t276 _ A4.out).mono ?_); rintro e w6 ⟨rfl, hb⟩; have n0_ := Aside0.mk (below_step (by repeat (first | (with_reducible first | exact HB.out | apply below_alloc | apply pw_below_drewN | apply below_drew1) | exact HB.out)) hb); clear HB; have HB := n0_; clear n0_; (try clear hb); (try clear hb2); (try clear hk); (try clear hi))); go_upto_region 2 with (first | (go_at_call 14; (with_reducible refine (sennitlaw05_awake.calls k  t276 _ A4.out).mono ?_); rintro e w6 ⟨rfl, hb⟩; have n0_ := Aside0.mk (below_step (by repeat (first | (with_reducible first | exact HB.out | apply below_alloc | apply pw_below_drewN | apply below_drew1) | exact HB.out)) hb); clear HB; have HB := n0_; clear n0_; (try clear hb); (try clear hb2); (try clear hk); (try clear hi))))
  (try simp only [Act.put, List.setIfInBounds_toArray, List.set_cons_zero, List.set_cons_succ])
  go_cut [24] (fun v24 wc => ∃ (kq : Nat) (x24_4 : Bool), v24 = .bool x24_4 ∧ Aside0 (sennitlaw05_AlignUnique.j0 kq l0 l1 l2 t276 x24_4 = some r) ∧ Aside0 (kq ≤ k) ∧ Aside0 (Below w.heap.size w wc))
  case first =>
    have H := HC5.out
    clear HC5
    replace H := Option.bind_eq_some_iff.mp H
    obtain ⟨t277, A70, H⟩ := H
    replace H : (if t277 = true then (sennitlaw05_AlignUnique.j0 k l0 l1 l2 t276 (decide ((l2.length : Int) > 100))) else (sennitlaw05_AlignUnique.j0 k l0 l1 l2 t276 true)) = some r := H
    have A7 := Aside0.mk A70
    clear A70
    by_cases c8 : t277 = true
    · subst c8
      have H1 : (sennitlaw05_AlignUnique.j0 k l0 l1 l2 t276 (decide ((l2.length : Int) > 100))) = some r := by rw [if_pos rfl] at H; exact H
      clear H
      have H := H1
      clear H1
      have H' := Aside0.mk H
      clear H
      go_wp2_with (first | (go_at_call 15; (with_reducible refine (sennitref05_Few.calls k _ _ l0 _ _ l1 true _ ?side1 ?side2 ?side3 ?side4 A7.out).mono ?_); (case side1 => repeat (first | exact (Kd.C_below HR0.out HB.out) | (with_reducible refine Kd.C_alloc ?_ _) | (with_reducible refine Kd.C_drewN ?_ _) | (with_reducible refine Kd.C_drew ?_))); (case side2 => exact HC0.out); (case side3 => repeat (first | exact (Kd.C_below HR1.out HB.out) | (with_reducible refine Kd.C_alloc ?_ _) | (with_reducible refine Kd.C_drewN ?_ _) | (with_reducible refine Kd.C_drew ?_))); (case side4 => exact HC1.out); rintro e w' ⟨rfl, ⟨nd, rfl⟩⟩; (try first | exact ⟨rfl, _, World.drewN_drewN _ _ _⟩ | exact ⟨rfl, _, Eq.trans (World.drewN_drewN _ _ _) (congrArg (World.drewN _) (Nat.add_assoc _ _ _))⟩)))
      repeat (go_quiet (first | (go_at_call 15; (with_reducible refine (sennitref05_Few.calls k _ _ l0 _ _ l1 true _ ?side1 ?side2 ?side3 ?side4 A7.out).mono ?_); (case side1 => repeat (first | exact (Kd.C_below HR0.out HB.out) | (with_reducible refine Kd.C_alloc ?_ _) | (with_reducible refine Kd.C_drewN ?_ _) | (with_reducible refine Kd.C_drew ?_))); (case side2 => exact HC0.out); (case side3 => repeat (first | exact (Kd.C_below HR1.out HB.out) | (with_reducible refine Kd.C_alloc ?_ _) | (with_reducible refine Kd.C_drewN ?_ _) | (with_reducible refine Kd.C_drew ?_))); (case side4 => exact HC1.out); rintro e w' ⟨rfl, ⟨nd, rfl⟩⟩; (try first | exact ⟨rfl, _, World.drewN_drewN _ _ _⟩ | exact ⟨rfl, _, Eq.trans (World.drewN_drewN _ _ _) (congrArg (World.drewN _) (Nat.add_assoc _ _ _))⟩))); try go_wp2_with (first | (go_at_call 15; (with_reducible refine (sennitref05_Few.calls k _ _ l0 _ _ l1 true _ ?side1 ?side2 ?side3 ?side4 A7.out).mono ?_); (case side1 => repeat (first | exact (Kd.C_below HR0.out HB.out) | (with_reducible refine Kd.C_alloc ?_ _) | (with_reducible refine Kd.C_drewN ?_ _) | (with_reducible refine Kd.C_drew ?_))); (case side2 => exact HC0.out); (case side3 => repeat (first | exact (Kd.C_below HR1.out HB.out) | (with_reducible refine Kd.C_alloc ?_ _) | (with_reducible refine Kd.C_drewN ?_ _) | (with_reducible refine Kd.C_drew ?_))); (case side4 => exact HC1.out); rintro e w' ⟨rfl, ⟨nd, rfl⟩⟩; (try first | exact ⟨rfl, _, World.drewN_drewN _ _ _⟩ | exact ⟨rfl, _, Eq.trans (World.drewN_drewN _ _ _) (congrArg (World.drewN _) (Nat.add_assoc _ _ _))⟩))))
      go_meet
      case rel => exact ⟨_, (decide ((l2.length : Int) > 100)), (by first | rfl | (simp; done) | (simp [*]; done)), H', ⟨by first | omega | exact Nat.le_refl _⟩, ⟨by repeat (first | (with_reducible first | exact HB.out | apply below_alloc | apply pw_below_drewN | apply below_drew1) | exact HB.out)⟩⟩
    · replace c8 := Bool.eq_false_iff.mpr c8
      subst c8
      have H1 : (sennitlaw05_AlignUnique.j0 k l0 l1 l2 t276 true) = some r := by rw [if_neg (show ¬ (false = true) by decide)] at H; exact H
      clear H
      have H := H1
      clear H1
      have H' := Aside0.mk H
      clear H
      go_wp2_with (first | (go_at_call 15; (with_reducible refine (sennitref05_Few.calls k _ _ l0 _ _ l1 false _ ?side1 ?side2 ?side3 ?side4 A7.out).mono ?_); (case side1 => repeat (first | exact (Kd.C_below HR0.out HB.out) | (with_reducible refine Kd.C_alloc ?_ _) | (with_reducible refine Kd.C_drewN ?_ _) | (with_reducible refine Kd.C_drew ?_))); (case side2 => exact HC0.out); (case side3 => repeat (first | exact (Kd.C_below HR1.out HB.out) | (with_reducible refine Kd.C_alloc ?_ _) | (with_reducible refine Kd.C_drewN ?_ _) | (with_reducible refine Kd.C_drew ?_))); (case side4 => exact HC1.out); rintro e w' ⟨rfl, ⟨nd, rfl⟩⟩; (try first | exact ⟨rfl, _, World.drewN_drewN _ _ _⟩ | exact ⟨rfl, _, Eq.trans (World.drewN_drewN _ _ _) (congrArg (World.drewN _) (Nat.add_assoc _ _ _))⟩)))
      repeat (go_quiet (first | (go_at_call 15; (with_reducible refine (sennitref05_Few.calls k _ _ l0 _ _ l1 false _ ?side1 ?side2 ?side3 ?side4 A7.out).mono ?_); (case side1 => repeat (first | exact (Kd.C_below HR0.out HB.out) | (with_reducible refine Kd.C_alloc ?_ _) | (with_reducible refine Kd.C_drewN ?_ _) | (with_reducible refine Kd.C_drew ?_))); (case side2 => exact HC0.out); (case side3 => repeat (first | exact (Kd.C_below HR1.out HB.out) | (with_reducible refine Kd.C_alloc ?_ _) | (with_reducible refine Kd.C_drewN ?_ _) | (with_reducible refine Kd.C_drew ?_))); (case side4 => exact HC1.out); rintro e w' ⟨rfl, ⟨nd, rfl⟩⟩; (try first | exact ⟨rfl, _, World.drewN_drewN _ _ _⟩ | exact ⟨rfl, _, Eq.trans (World.drewN_drewN _ _ _) (congrArg (World.drewN _) (Nat.add_assoc _ _ _))⟩))); try go_wp2_with (first | (go_at_call 15; (with_reducible refine (sennitref05_Few.calls k _ _ l0 _ _ l1 false _ ?side1 ?side2 ?side3 ?side4 A7.out).mono ?_); (case side1 => repeat (first | exact (Kd.C_below HR0.out HB.out) | (with_reducible refine Kd.C_alloc ?_ _) | (with_reducible refine Kd.C_drewN ?_ _) | (with_reducible refine Kd.C_drew ?_))); (case side2 => exact HC0.out); (case side3 => repeat (first | exact (Kd.C_below HR1.out HB.out) | (with_reducible refine Kd.C_alloc ?_ _) | (with_reducible refine Kd.C_drewN ?_ _) | (with_reducible refine Kd.C_drew ?_))); (case side4 => exact HC1.out); rintro e w' ⟨rfl, ⟨nd, rfl⟩⟩; (try first | exact ⟨rfl, _, World.drewN_drewN _ _ _⟩ | exact ⟨rfl, _, Eq.trans (World.drewN_drewN _ _ _) (congrArg (World.drewN _) (Nat.add_assoc _ _ _))⟩))))
      go_meet
      case rel => exact ⟨_, (true), (by first | rfl | (simp; done) | (simp [*]; done)), H', ⟨by first | omega | exact Nat.le_refl _⟩, ⟨by repeat (first | (with_reducible first | exact HB.out | apply below_alloc | apply pw_below_drewN | apply below_drew1) | exact HB.out)⟩⟩
  case rest =>
    clear HC5
    try clear c1
    try clear c2
    try clear p2
    try clear c5
    try clear c8
    obtain ⟨kq, x24_4, rfl, HA, HJ4, HB⟩ := hcut
    cases kq with
    | zero => exact absurd HA.out (by simp [sennitlaw05_AlignUnique.j0])
    | succ kj4 =>
      have H := HA.out
      clear HA
      simp only [sennitlaw05_AlignUnique.j0] at H
      by_cases c9 : x24_4 = true
      · subst c9
        have H1 : (some t276) = some r := by rw [if_pos rfl] at H; exact H
        clear H
        have H := H1
        clear H1
        obtain rfl := Option.some.inj H
        go_wp2
        repeat (go_quiet (fail); try go_wp2)
        go_ret
        exact ⟨by first | rfl | (simp [errW_none, errW_some] <;> rfl) | (simp [*, errW_none, errW_some] <;> rfl), by repeat (first | (with_reducible first | exact HB.out | apply below_alloc | apply pw_below_drewN | apply below_drew1) | exact HB.out)⟩
      · replace c9 := Bool.eq_false_iff.mpr c9
        subst c9
        have H1 : ((sennitref03_Ints.f kj4 l0).bind fun t278 => ((sennitref05_Lists.f kj4 l1).bind fun t281 => ((sennitref05_Matches.f kj4 t278 t281).bind fun bt284 => ((sennitlaw05_covers.f kj4 l2 (l0.length : Int) bt284.1).bind fun t290 => (sennitlaw05_AlignUnique.l0 kj4 l0 l1 l2 t276 bt284.2 t290 0))))) = some r := by rw [if_neg (show ¬ (false = true) by decide)] at H; exact H
        clear H
        have H := H1
        clear H1
        replace H := Option.bind_eq_some_iff.mp H
        obtain ⟨t278, A100, H⟩ := H
        replace H : ((sennitref05_Lists.f kj4 l1).bind fun t281 => ((sennitref05_Matches.f kj4 t278 t281).bind fun bt284 => ((sennitlaw05_covers.f kj4 l2 (l0.length : Int) bt284.1).bind fun t290 => (sennitlaw05_AlignUnique.l0 kj4 l0 l1 l2 t276 bt284.2 t290 0)))) = some r := H
        have A10 := Aside0.mk A100
        clear A100
        replace H := Option.bind_eq_some_iff.mp H
        obtain ⟨t281, A110, H⟩ := H
        replace H : ((sennitref05_Matches.f kj4 t278 t281).bind fun bt284 => ((sennitlaw05_covers.f kj4 l2 (l0.length : Int) bt284.1).bind fun t290 => (sennitlaw05_AlignUnique.l0 kj4 l0 l1 l2 t276 bt284.2 t290 0))) = some r := H
        have A11 := Aside0.mk A110
        clear A110
        replace H := Option.bind_eq_some_iff.mp H
        obtain ⟨⟨t284, t285⟩, A120, H⟩ := H
        replace H : ((sennitlaw05_covers.f kj4 l2 (l0.length : Int) t284).bind fun t290 => (sennitlaw05_AlignUnique.l0 kj4 l0 l1 l2 t276 t285 t290 0)) = some r := H
        have A12 := Aside0.mk A120
        clear A120
        replace H := Option.bind_eq_some_iff.mp H
        obtain ⟨t290, A130, H⟩ := H
        replace H : (sennitlaw05_AlignUnique.l0 kj4 l0 l1 l2 t276 t285 t290 0) = some r := H
        have A13 := Aside0.mk A130
        clear A130
        have H' := Aside0.mk H
        clear H
        go_wp2_with (first | (go_at_call 20; (with_reducible refine (sennitref03_Ints.calls kj4 _ _ l0 t278 _ ?side1 ?side2 A10.out).mono ?_); (case side1 => repeat (first | exact (Kd.C_below HR0.out HB.out) | (with_reducible refine Kd.C_alloc ?_ _) | (with_reducible refine Kd.C_drewN ?_ _) | (with_reducible refine Kd.C_drew ?_))); (case side2 => exact HC0.out); rintro e w14 ⟨v279, rfl, ho0, hb⟩; have n0_ := Aside0.mk (Kd.R_lower ho0 (below_size (by repeat (first | (with_reducible first | exact HB.out | apply below_alloc | apply pw_below_drewN | apply below_drew1) | exact HB.out)))); have n1_ := Aside0.mk (below_step (by repeat (first | (with_reducible first | exact HB.out | apply below_alloc | apply pw_below_drewN | apply below_drew1) | exact HB.out)) hb); clear HB; have HO280 := n0_; have HB := n1_; clear n0_ n1_; (try clear hb); (try clear hb2); (try clear hk); (try clear hi); (try clear ho0)) | (go_at_call 17; (with_reducible refine (sennitref05_Lists.calls kj4 _ _ l1 t281 _ ?side1 ?side2 A11.out).mono ?_); (case side1 => repeat (first | exact (Kd.C_below HR1.out HB.out) | (with_reducible refine Kd.C_alloc ?_ _) | (with_reducible refine Kd.C_drewN ?_ _) | (with_reducible refine Kd.C_drew ?_))); (case side2 => exact HC1.out); rintro e w15 ⟨v282, rfl, ho0, hb⟩; have n0_ := Aside0.mk (Kd.R_below (by (with_reducible repeat (first | apply Kd.R_alloc | apply Kd.R_drewN | apply Kd.R_drew)); exact HO280.out) hb); have n1_ := Aside0.mk (Kd.S_lower (Kd.S_new' ho0 (Kd.R_lt (by (with_reducible repeat (first | apply Kd.R_alloc | apply Kd.R_drewN | apply Kd.R_drew)); exact HO280.out))) (below_size (by repeat (first | (with_reducible first | exact HB.out | apply below_alloc | apply pw_below_drewN | apply below_drew1) | exact HB.out)))); have n2_ := Aside0.mk (below_step (by repeat (first | (with_reducible first | exact HB.out | apply below_alloc | apply pw_below_drewN | apply below_drew1) | exact HB.out)) hb); clear HO280; clear HB; have HO280 := n0_; have HO283 := n1_; have HB := n2_; clear n0_ n1_ n2_; (try clear hb); (try clear hb2); (try clear hk); (try clear hi); (try clear ho0); obtain ⟨Ao16, co16, eo16⟩ := Kd.R_slice HO280.out; subst eo16; obtain ⟨Ao17, co17, eo17⟩ := Kd.S_slice HO283.out; subst eo17) | (go_at_call 16; (with_reducible refine (sennitref05_Matches.calls kj4 _ _ t278 _ _ t281 t284 t285 _ ?side1 ?side2 ?side3 ?side4 A12.out).mono ?_); (case side1 => repeat (first | exact (Kd.R_reads' HO280.out).2.2 | (with_reducible refine Kd.C_alloc ?_ _) | (with_reducible refine Kd.C_drewN ?_ _) | (with_reducible refine Kd.C_drew ?_))); (case side2 => exact (Kd.R_reads' HO280.out).2.1); (case side3 => repeat (first | exact (Kd.S_reads' HO283.out).2.2 | (with_reducible refine Kd.C_alloc ?_ _) | (with_reducible refine Kd.C_drewN ?_ _) | (with_reducible refine Kd.C_drew ?_))); (case side4 => exact (Kd.S_reads' HO283.out).2.1); rintro e w18 ⟨v286, v288, rfl, ho0, ho1, hb⟩; have n0_ := Aside0.mk (Kd.R_elder' (by (with_reducible repeat (first | apply Kd.R_alloc | apply Kd.R_drewN | apply Kd.R_drew)); exact HO280.out) (Kd.R_base ho0) hb); have n1_ := Aside0.mk (Kd.S_mono (Kd.S_told (Kd.S_told (Kd.S_old (by (with_reducible repeat (first | apply Kd.S_alloc | apply Kd.S_drewN | apply Kd.S_drew)); exact HO283.out) hb) (Kd.R_base ho0)) (Kd.S_base ho1)) (fun _ h_ => h_.1)); have n2_ := Aside0.mk (Kd.R_lower (Kd.R_new' ho0 (Kd.R_lt (by (with_reducible repeat (first | apply Kd.R_alloc | apply Kd.R_drewN | apply Kd.R_drew)); exact HO280.out))) (below_size (by repeat (first | (with_reducible first | exact HB.out | apply below_alloc | apply pw_below_drewN | apply below_drew1) | exact HB.out)))); have n3_ := Aside0.mk (Kd.S_lower (Kd.S_new' (Kd.S_new' ho1 (Kd.R_lt (by (with_reducible repeat (first | apply Kd.R_alloc | apply Kd.R_drewN | apply Kd.R_drew)); exact HO280.out))) (Kd.S_lt (by (with_reducible repeat (first | apply Kd.S_alloc | apply Kd.S_drewN | apply Kd.S_drew)); exact HO283.out))) (below_size (by repeat (first | (with_reducible first | exact HB.out | apply below_alloc | apply pw_below_drewN | apply below_drew1) | exact HB.out)))); have n4_ := Aside0.mk (below_step (by repeat (first | (with_reducible first | exact HB.out | apply below_alloc | apply pw_below_drewN | apply below_drew1) | exact HB.out)) hb); clear HO280; clear HO283; clear HB; have HO280 := n0_; have HO283 := n1_; have HO287 := n2_; have HO289 := n3_; have HB := n4_; clear n0_ n1_ n2_ n3_ n4_; (try clear hb); (try clear hb2); (try clear hk); (try clear hi); (try clear ho0); (try clear ho1); obtain ⟨Ao19, co19, eo19⟩ := Kd.R_slice HO287.out; subst eo19) | (go_at_call 18; (with_reducible refine (sennitlaw05_covers.calls kj4 _ _ l2 (l0.length : Int) _ _ t284 t290 _ ?side1 ?side2 ?side3 ?side4 A13.out).mono ?_); (case side1 => repeat (first | exact (Kd.C_below HR2.out HB.out) | (with_reducible refine Kd.C_alloc ?_ _) | (with_reducible refine Kd.C_drewN ?_ _) | (with_reducible refine Kd.C_drew ?_))); (case side2 => exact HC2.out); (case side3 => repeat (first | exact (Kd.R_reads' HO287.out).2.2 | (with_reducible refine Kd.C_alloc ?_ _) | (with_reducible refine Kd.C_drewN ?_ _) | (with_reducible refine Kd.C_drew ?_))); (case side4 => exact (Kd.R_reads' HO287.out).2.1); rintro e w20 ⟨rfl, hb⟩; have n0_ := Aside0.mk (Kd.R_below (by (with_reducible repeat (first | apply Kd.R_alloc | apply Kd.R_drewN | apply Kd.R_drew)); exact HO280.out) hb); have n1_ := Aside0.mk (Kd.S_below (by (with_reducible repeat (first | apply Kd.S_alloc | apply Kd.S_drewN | apply Kd.S_drew)); exact HO283.out) hb); have n2_ := Aside0.mk (Kd.R_below (by (with_reducible repeat (first | apply Kd.R_alloc | apply Kd.R_drewN | apply Kd.R_drew)); exact HO287.out) hb); have n3_ := Aside0.mk (Kd.S_below (by (with_reducible repeat (first | apply Kd.S_alloc | apply Kd.S_drewN | apply Kd.S_drew)); exact HO289.out) hb); have n4_ := Aside0.mk (below_step (by repeat (first | (with_reducible first | exact HB.out | apply below_alloc | apply pw_below_drewN | apply below_drew1) | exact HB.out)) hb); clear HO280; clear HO283; clear HO287; clear HO289; clear HB; have HO280 := n0_; have HO283 := n1_; have HO287 := n2_; have HO289 := n3_; have HB := n4_; clear n0_ n1_ n2_ n3_ n4_; (try clear hb); (try clear hb2); (try clear hk); (try clear hi)))
        repeat (go_quiet (first | (go_at_call 20; (with_reducible refine (sennitref03_Ints.calls kj4 _ _ l0 t278 _ ?side1 ?side2 A10.out).mono ?_); (case side1 => repeat (first | exact (Kd.C_below HR0.out HB.out) | (with_reducible refine Kd.C_alloc ?_ _) | (with_reducible refine Kd.C_drewN ?_ _) | (with_reducible refine Kd.C_drew ?_))); (case side2 => exact HC0.out); rintro e w14 ⟨v279, rfl, ho0, hb⟩; have n0_ := Aside0.mk (Kd.R_lower ho0 (below_size (by repeat (first | (with_reducible first | exact HB.out | apply below_alloc | apply pw_below_drewN | apply below_drew1) | exact HB.out)))); have n1_ := Aside0.mk (below_step (by repeat (first | (with_reducible first | exact HB.out | apply below_alloc | apply pw_below_drewN | apply below_drew1) | exact HB.out)) hb); clear HB; have HO280 := n0_; have HB := n1_; clear n0_ n1_; (try clear hb); (try clear hb2); (try clear hk); (try clear hi); (try clear ho0)) | (go_at_call 17; (with_reducible refine (sennitref05_Lists.calls kj4 _ _ l1 t281 _ ?side1 ?side2 A11.out).mono ?_); (case side1 => repeat (first | exact (Kd.C_below HR1.out HB.out) | (with_reducible refine Kd.C_alloc ?_ _) | (with_reducible refine Kd.C_drewN ?_ _) | (with_reducible refine Kd.C_drew ?_))); (case side2 => exact HC1.out); rintro e w15 ⟨v282, rfl, ho0, hb⟩; have n0_ := Aside0.mk (Kd.R_below (by (with_reducible repeat (first | apply Kd.R_alloc | apply Kd.R_drewN | apply Kd.R_drew)); exact HO280.out) hb); have n1_ := Aside0.mk (Kd.S_lower (Kd.S_new' ho0 (Kd.R_lt (by (with_reducible repeat (first | apply Kd.R_alloc | apply Kd.R_drewN | apply Kd.R_drew)); exact HO280.out))) (below_size (by repeat (first | (with_reducible first | exact HB.out | apply below_alloc | apply pw_below_drewN | apply below_drew1) | exact HB.out)))); have n2_ := Aside0.mk (below_step (by repeat (first | (with_reducible first | exact HB.out | apply below_alloc | apply pw_below_drewN | apply below_drew1) | exact HB.out)) hb); clear HO280; clear HB; have HO280 := n0_; have HO283 := n1_; have HB := n2_; clear n0_ n1_ n2_; (try clear hb); (try clear hb2); (try clear hk); (try clear hi); (try clear ho0); obtain ⟨Ao16, co16, eo16⟩ := Kd.R_slice HO280.out; subst eo16; obtain ⟨Ao17, co17, eo17⟩ := Kd.S_slice HO283.out; subst eo17) | (go_at_call 16; (with_reducible refine (sennitref05_Matches.calls kj4 _ _ t278 _ _ t281 t284 t285 _ ?side1 ?side2 ?side3 ?side4 A12.out).mono ?_); (case side1 => repeat (first | exact (Kd.R_reads' HO280.out).2.2 | (with_reducible refine Kd.C_alloc ?_ _) | (with_reducible refine Kd.C_drewN ?_ _) | (with_reducible refine Kd.C_drew ?_))); (case side2 => exact (Kd.R_reads' HO280.out).2.1); (case side3 => repeat (first | exact (Kd.S_reads' HO283.out).2.2 | (with_reducible refine Kd.C_alloc ?_ _) | (with_reducible refine Kd.C_drewN ?_ _) | (with_reducible refine Kd.C_drew ?_))); (case side4 => exact (Kd.S_reads' HO283.out).2.1); rintro e w18 ⟨v286, v288, rfl, ho0, ho1, hb⟩; have n0_ := Aside0.mk (Kd.R_elder' (by (with_reducible repeat (first | apply Kd.R_alloc | apply Kd.R_drewN | apply Kd.R_drew)); exact HO280.out) (Kd.R_base ho0) hb); have n1_ := Aside0.mk (Kd.S_mono (Kd.S_told (Kd.S_told (Kd.S_old (by (with_reducible repeat (first | apply Kd.S_alloc | apply Kd.S_drewN | apply Kd.S_drew)); exact HO283.out) hb) (Kd.R_base ho0)) (Kd.S_base ho1)) (fun _ h_ => h_.1)); have n2_ := Aside0.mk (Kd.R_lower (Kd.R_new' ho0 (Kd.R_lt (by (with_reducible repeat (first | apply Kd.R_alloc | apply Kd.R_drewN | apply Kd.R_drew)); exact HO280.out))) (below_size (by repeat (first | (with_reducible first | exact HB.out | apply below_alloc | apply pw_below_drewN | apply below_drew1) | exact HB.out)))); have n3_ := Aside0.mk (Kd.S_lower (Kd.S_new' (Kd.S_new' ho1 (Kd.R_lt (by (with_reducible repeat (first | apply Kd.R_alloc | apply Kd.R_drewN | apply Kd.R_drew)); exact HO280.out))) (Kd.S_lt (by (with_reducible repeat (first | apply Kd.S_alloc | apply Kd.S_drewN | apply Kd.S_drew)); exact HO283.out))) (below_size (by repeat (first | (with_reducible first | exact HB.out | apply below_alloc | apply pw_below_drewN | apply below_drew1) | exact HB.out)))); have n4_ := Aside0.mk (below_step (by repeat (first | (with_reducible first | exact HB.out | apply below_alloc | apply pw_below_drewN | apply below_drew1) | exact HB.out)) hb); clear HO280; clear HO283; clear HB; have HO280 := n0_; have HO283 := n1_; have HO287 := n2_; have HO289 := n3_; have HB := n4_; clear n0_ n1_ n2_ n3_ n4_; (try clear hb); (try clear hb2); (try clear hk); (try clear hi); (try clear ho0); (try clear ho1); obtain ⟨Ao19, co19, eo19⟩ := Kd.R_slice HO287.out; subst eo19) | (go_at_call 18; (with_reducible refine (sennitlaw05_covers.calls kj4 _ _ l2 (l0.length : Int) _ _ t284 t290 _ ?side1 ?side2 ?side3 ?side4 A13.out).mono ?_); (case side1 => repeat (first | exact (Kd.C_below HR2.out HB.out) | (with_reducible refine Kd.C_alloc ?_ _) | (with_reducible refine Kd.C_drewN ?_ _) | (with_reducible refine Kd.C_drew ?_))); (case side2 => exact HC2.out); (case side3 => repeat (first | exact (Kd.R_reads' HO287.out).2.2 | (with_reducible refine Kd.C_alloc ?_ _) | (with_reducible refine Kd.C_drewN ?_ _) | (with_reducible refine Kd.C_drew ?_))); (case side4 => exact (Kd.R_reads' HO287.out).2.1); rintro e w20 ⟨rfl, hb⟩; have n0_ := Aside0.mk (Kd.R_below (by (with_reducible repeat (first | apply Kd.R_alloc | apply Kd.R_drewN | apply Kd.R_drew)); exact HO280.out) hb); have n1_ := Aside0.mk (Kd.S_below (by (with_reducible repeat (first | apply Kd.S_alloc | apply Kd.S_drewN | apply Kd.S_drew)); exact HO283.out) hb); have n2_ := Aside0.mk (Kd.R_below (by (with_reducible repeat (first | apply Kd.R_alloc | apply Kd.R_drewN | apply Kd.R_drew)); exact HO287.out) hb); have n3_ := Aside0.mk (Kd.S_below (by (with_reducible repeat (first | apply Kd.S_alloc | apply Kd.S_drewN | apply Kd.S_drew)); exact HO289.out) hb); have n4_ := Aside0.mk (below_step (by repeat (first | (with_reducible first | exact HB.out | apply below_alloc | apply pw_below_drewN | apply below_drew1) | exact HB.out)) hb); clear HO280; clear HO283; clear HO287; clear HO289; clear HB; have HO280 := n0_; have HO283 := n1_; have HO287 := n2_; have HO289 := n3_; have HB := n4_; clear n0_ n1_ n2_ n3_ n4_; (try clear hb); (try clear hb2); (try clear hk); (try clear hi))); try go_wp2_with (first | (go_at_call 20; (with_reducible refine (sennitref03_Ints.calls kj4 _ _ l0 t278 _ ?side1 ?side2 A10.out).mono ?_); (case side1 => repeat (first | exact (Kd.C_below HR0.out HB.out) | (with_reducible refine Kd.C_alloc ?_ _) | (with_reducible refine Kd.C_drewN ?_ _) | (with_reducible refine Kd.C_drew ?_))); (case side2 => exact HC0.out); rintro e w14 ⟨v279, rfl, ho0, hb⟩; have n0_ := Aside0.mk (Kd.R_lower ho0 (below_size (by repeat (first | (with_reducible first | exact HB.out | apply below_alloc | apply pw_below_drewN | apply below_drew1) | exact HB.out)))); have n1_ := Aside0.mk (below_step (by repeat (first | (with_reducible first | exact HB.out | apply below_alloc | apply pw_below_drewN | apply below_drew1) | exact HB.out)) hb); clear HB; have HO280 := n0_; have HB := n1_; clear n0_ n1_; (try clear hb); (try clear hb2); (try clear hk); (try clear hi); (try clear ho0)) | (go_at_call 17; (with_reducible refine (sennitref05_Lists.calls kj4 _ _ l1 t281 _ ?side1 ?side2 A11.out).mono ?_); (case side1 => repeat (first | exact (Kd.C_below HR1.out HB.out) | (with_reducible refine Kd.C_alloc ?_ _) | (with_reducible refine Kd.C_drewN ?_ _) | (with_reducible refine Kd.C_drew ?_))); (case side2 => exact HC1.out); rintro e w15 ⟨v282, rfl, ho0, hb⟩; have n0_ := Aside0.mk (Kd.R_below (by (with_reducible repeat (first | apply Kd.R_alloc | apply Kd.R_drewN | apply Kd.R_drew)); exact HO280.out) hb); have n1_ := Aside0.mk (Kd.S_lower (Kd.S_new' ho0 (Kd.R_lt (by (with_reducible repeat (first | apply Kd.R_alloc | apply Kd.R_drewN | apply Kd.R_drew)); exact HO280.out))) (below_size (by repeat (first | (with_reducible first | exact HB.out | apply below_alloc | apply pw_below_drewN | apply below_drew1) | exact HB.out)))); have n2_ := Aside0.mk (below_step (by repeat (first | (with_reducible first | exact HB.out | apply below_alloc | apply pw_below_drewN | apply below_drew1) | exact HB.out)) hb); clear HO280; clear HB; have HO280 := n0_; have HO283 := n1_; have HB := n2_; clear n0_ n1_ n2_; (try clear hb); (try clear hb2); (try clear hk); (try clear hi); (try clear ho0); obtain ⟨Ao16, co16, eo16⟩ := Kd.R_slice HO280.out; subst eo16; obtain ⟨Ao17, co17, eo17⟩ := Kd.S_slice HO283.out; subst eo17) | (go_at_call 16; (with_reducible refine (sennitref05_Matches.calls kj4 _ _ t278 _ _ t281 t284 t285 _ ?side1 ?side2 ?side3 ?side4 A12.out).mono ?_); (case side1 => repeat (first | exact (Kd.R_reads' HO280.out).2.2 | (with_reducible refine Kd.C_alloc ?_ _) | (with_reducible refine Kd.C_drewN ?_ _) | (with_reducible refine Kd.C_drew ?_))); (case side2 => exact (Kd.R_reads' HO280.out).2.1); (case side3 => repeat (first | exact (Kd.S_reads' HO283.out).2.2 | (with_reducible refine Kd.C_alloc ?_ _) | (with_reducible refine Kd.C_drewN ?_ _) | (with_reducible refine Kd.C_drew ?_))); (case side4 => exact (Kd.S_reads' HO283.out).2.1); rintro e w18 ⟨v286, v288, rfl, ho0, ho1, hb⟩; have n0_ := Aside0.mk (Kd.R_elder' (by (with_reducible repeat (first | apply Kd.R_alloc | apply Kd.R_drewN | apply Kd.R_drew)); exact HO280.out) (Kd.R_base ho0) hb); have n1_ := Aside0.mk (Kd.S_mono (Kd.S_told (Kd.S_told (Kd.S_old (by (with_reducible repeat (first | apply Kd.S_alloc | apply Kd.S_drewN | apply Kd.S_drew)); exact HO283.out) hb) (Kd.R_base ho0)) (Kd.S_base ho1)) (fun _ h_ => h_.1)); have n2_ := Aside0.mk (Kd.R_lower (Kd.R_new' ho0 (Kd.R_lt (by (with_reducible repeat (first | apply Kd.R_alloc | apply Kd.R_drewN | apply Kd.R_drew)); exact HO280.out))) (below_size (by repeat (first | (with_reducible first | exact HB.out | apply below_alloc | apply pw_below_drewN | apply below_drew1) | exact HB.out)))); have n3_ := Aside0.mk (Kd.S_lower (Kd.S_new' (Kd.S_new' ho1 (Kd.R_lt (by (with_reducible repeat (first | apply Kd.R_alloc | apply Kd.R_drewN | apply Kd.R_drew)); exact HO280.out))) (Kd.S_lt (by (with_reducible repeat (first | apply Kd.S_alloc | apply Kd.S_drewN | apply Kd.S_drew)); exact HO283.out))) (below_size (by repeat (first | (with_reducible first | exact HB.out | apply below_alloc | apply pw_below_drewN | apply below_drew1) | exact HB.out)))); have n4_ := Aside0.mk (below_step (by repeat (first | (with_reducible first | exact HB.out | apply below_alloc | apply pw_below_drewN | apply below_drew1) | exact HB.out)) hb); clear HO280; clear HO283; clear HB; have HO280 := n0_; have HO283 := n1_; have HO287 := n2_; have HO289 := n3_; have HB := n4_; clear n0_ n1_ n2_ n3_ n4_; (try clear hb); (try clear hb2); (try clear hk); (try clear hi); (try clear ho0); (try clear ho1); obtain ⟨Ao19, co19, eo19⟩ := Kd.R_slice HO287.out; subst eo19) | (go_at_call 18; (with_reducible refine (sennitlaw05_covers.calls kj4 _ _ l2 (l0.length : Int) _ _ t284 t290 _ ?side1 ?side2 ?side3 ?side4 A13.out).mono ?_); (case side1 => repeat (first | exact (Kd.C_below HR2.out HB.out) | (with_reducible refine Kd.C_alloc ?_ _) | (with_reducible refine Kd.C_drewN ?_ _) | (with_reducible refine Kd.C_drew ?_))); (case side2 => exact HC2.out); (case side3 => repeat (first | exact (Kd.R_reads' HO287.out).2.2 | (with_reducible refine Kd.C_alloc ?_ _) | (with_reducible refine Kd.C_drewN ?_ _) | (with_reducible refine Kd.C_drew ?_))); (case side4 => exact (Kd.R_reads' HO287.out).2.1); rintro e w20 ⟨rfl, hb⟩; have n0_ := Aside0.mk (Kd.R_below (by (with_reducible repeat (first | apply Kd.R_alloc | apply Kd.R_drewN | apply Kd.R_drew)); exact HO280.out) hb); have n1_ := Aside0.mk (Kd.S_below (by (with_reducible repeat (first | apply Kd.S_alloc | apply Kd.S_drewN | apply Kd.S_drew)); exact HO283.out) hb); have n2_ := Aside0.mk (Kd.R_below (by (with_reducible repeat (first | apply Kd.R_alloc | apply Kd.R_drewN | apply Kd.R_drew)); exact HO287.out) hb); have n3_ := Aside0.mk (Kd.S_below (by (with_reducible repeat (first | apply Kd.S_alloc | apply Kd.S_drewN | apply Kd.S_drew)); exact HO289.out) hb); have n4_ := Aside0.mk (below_step (by repeat (first | (with_reducible first | exact HB.out | apply below_alloc | apply pw_below_drewN | apply below_drew1) | exact HB.out)) hb); clear HO280; clear HO283; clear HO287; clear HO289; clear HB; have HO280 := n0_; have HO283 := n1_; have HO287 := n2_; have HO289 := n3_; have HB := n4_; clear n0_ n1_ n2_ n3_ n4_; (try clear hb); (try clear hb2); (try clear hk); (try clear hi))))
        go_loopg [10, 11] kj4 (fun kq v10 v11 w' => ∃ (x10_2 : Bool) (x11_2 : Int), v10 = .bool x10_2 ∧ v11 = .int .i64 x11_2 ∧ Aside0 (sennitlaw05_AlignUnique.l0 kq l0 l1 l2 t276 t285 x10_2 x11_2 = some r) ∧ Aside0 (kq ≤ kj4) ∧ Aside0 (Kd.S (Kd.slice 3 (Kd.int .i64)) 26 w' w.heap.size (fun _ => True) v288 t285) ∧ Aside0 (Below w.heap.size w w'))
        case atStart => exact ⟨(t290), (0), (by first | rfl | (simp; done) | (simp [*]; done)), (by first | rfl | (simp; done) | (simp [*]; done)), H', ⟨Nat.le_refl _⟩, ⟨by (with_reducible repeat (first | apply Kd.S_alloc | apply Kd.S_drewN | apply Kd.S_drew)); exact Kd.S_mono HO289.out (fun _ hk => trivial)⟩, ⟨by repeat (first | (with_reducible first | exact HB.out | apply below_alloc | apply pw_below_drewN | apply below_drew1) | exact HB.out)⟩⟩
        case round =>
          clear H'
          try clear c1
          try clear c2
          try clear p2
          try clear c5
          try clear c8
          try clear c9
          try clear p2
          obtain ⟨x10_2, x11_2, rfl, rfl, HA, HK2, HO_9, HB⟩ := hrel
          cases gk with
          | zero => exact absurd HA.out (by simp [sennitlaw05_AlignUnique.l0])
          | succ k2 =>
            have H := HA.out
            clear HA
            simp only [sennitlaw05_AlignUnique.l0] at H
            have HC21 := Aside0.mk H
            clear H
            go_upto_region 7 with (fail)
            repeat (go_quiet (fail); go_upto_region 7 with (fail))
            go_cut [45] (fun v45 wc => ∃ (kq : Nat) (x45_20 : Bool), v45 = .bool x45_20 ∧ Aside0 (sennitlaw05_AlignUnique.j2 kq l0 l1 l2 t276 t285 x10_2 x11_2 x45_20 = some r) ∧ Aside0 (kq ≤ k2) ∧ Aside0 (Kd.S (Kd.slice 3 (Kd.int .i64)) 26 wc w.heap.size (fun _ => True) v288 t285) ∧ Aside0 (Below w.heap.size w wc))
            case first =>
              have H := HC21.out
              clear HC21
              by_cases c22 : x10_2 = true
              · subst c22
                have H1 : (sennitlaw05_AlignUnique.j2 k2 l0 l1 l2 t276 t285 true x11_2 (decide (x11_2 < (l2.length : Int)))) = some r := by rw [if_pos rfl] at H; exact H
                clear H
                have H := H1
                clear H1
                have H' := Aside0.mk H
                clear H
                go_wp2
                repeat (go_quiet (fail); try go_wp2)
                go_meet
                case rel => exact ⟨_, (decide (x11_2 < (l2.length : Int))), (by first | rfl | (simp; done) | (simp [*]; done)), H', ⟨by have := HJ4.out; have := HK2.out; first | omega | exact Nat.le_refl _⟩, ⟨by (with_reducible repeat (first | apply Kd.S_alloc | apply Kd.S_drewN | apply Kd.S_drew)); exact HO_9.out⟩, ⟨by repeat (first | (with_reducible first | exact HB.out | apply below_alloc | apply pw_below_drewN | apply below_drew1) | exact HB.out)⟩⟩
              · replace c22 := Bool.eq_false_iff.mpr c22
                subst c22
                have H1 : (sennitlaw05_AlignUnique.j2 k2 l0 l1 l2 t276 t285 false x11_2 false) = some r := by rw [if_neg (show ¬ (false = true) by decide)] at H; exact H
                clear H
                have H := H1
                clear H1
                have H' := Aside0.mk H
                clear H
                go_wp2
                repeat (go_quiet (fail); try go_wp2)
                go_meet
                case rel => exact ⟨_, (false), (by first | rfl | (simp; done) | (simp [*]; done)), H', ⟨by have := HJ4.out; have := HK2.out; first | omega | exact Nat.le_refl _⟩, ⟨by (with_reducible repeat (first | apply Kd.S_alloc | apply Kd.S_drewN | apply Kd.S_drew)); exact HO_9.out⟩, ⟨by repeat (first | (with_reducible first | exact HB.out | apply below_alloc | apply pw_below_drewN | apply below_drew1) | exact HB.out)⟩⟩
            case rest =>
              clear HC21
              try clear c1
              try clear c2
              try clear p2
              try clear c5
              try clear c8
              try clear c9
              try clear c22
              try clear p2
              obtain ⟨kq, x45_20, rfl, HA, HJ20, HO_9, HB⟩ := hcut
              cases kq with
              | zero => exact absurd HA.out (by simp [sennitlaw05_AlignUnique.j2])
              | succ kj20 =>
                have H := HA.out
                clear HA
                simp only [sennitlaw05_AlignUnique.j2] at H
                by_cases c23 : x45_20 = true
                · subst c23
                  have H1 : (if 0 ≤ x11_2 then (if x11_2 < (l2.length : Int) then (sennitlaw05_AlignUnique.l1 kj20 l0 l1 l2 t276 t285 x10_2 x11_2 ((rd_T39 l2 x11_2).f1.f0)) else (none)) else (none)) = some r := by rw [if_pos rfl] at H; exact H
                  clear H
                  have H := H1
                  clear H1
                  by_cases c24 : 0 ≤ x11_2
                  · rw [if_pos c24] at H
                    have c24b0 : decide (0 ≤ x11_2) = true := decide_eq_true c24
                    clear c24
                    by_cases c25 : x11_2 < (l2.length : Int)
                    · rw [if_pos c25] at H
                      have c25b0 : decide (x11_2 < (l2.length : Int)) = true := decide_eq_true c25
                      clear c25
                      have H' := Aside0.mk H
                      clear H
                      have p295 : 0 ≤ (x11_2 : Int) := of_decide_eq_true (by first | (with_reducible assumption) | assumption)
                      have q295 : x11_2 < (l2.length : Int) := of_decide_eq_true (by first | (with_reducible assumption) | assumption)
                      obtain ⟨ad295, A295_3, c295_3, e295, hx295_0, hx295_1, hx295_2, hx295_3, hl295_3, hi295_3⟩ := at_T39 HR2.out x11_2 p295 q295
                      cases e295
                      replace hx295_0 := (HB.out.cell (World.block_lt_of_cell? w _ hx295_0)).trans hx295_0
                      replace hx295_1 := (HB.out.cell (World.block_lt_of_cell? w _ hx295_1)).trans hx295_1
                      replace hx295_2 := (HB.out.cell (World.block_lt_of_cell? w _ hx295_2)).trans hx295_2
                      replace hx295_3 := (HB.out.cell (World.block_lt_of_cell? w _ hx295_3)).trans hx295_3
                      have HR295_3 := Aside0.mk hi295_3
                      have HC295_3 := Aside0.mk hl295_3
                      clear hi295_3 hl295_3
                      replace p295 := eq_true p295
                      replace q295 := eq_true q295
                      go_wp2
                      repeat (go_quiet (fail); try go_wp2)
                      go_loopg [10, 12] kj20 (fun kq v10 v12 w' => ∃ (x10_4 : Bool) (x12_4 : Int), v10 = .bool x10_4 ∧ v12 = .int .i64 x12_4 ∧ Aside0 (sennitlaw05_AlignUnique.l1 kq l0 l1 l2 t276 t285 x10_4 x11_2 x12_4 = some r) ∧ Aside0 (kq ≤ kj20) ∧ Aside0 (Kd.S (Kd.slice 3 (Kd.int .i64)) 26 w' w.heap.size (fun _ => True) v288 t285) ∧ Aside0 (Below w.heap.size w w'))
                      case atStart => exact ⟨(x10_2), ((rd_T39 l2 x11_2).f1.f0), (by first | rfl | (simp; done) | (simp [*]; done)), (by first | rfl | (simp; done) | (simp [*]; done)), H', ⟨Nat.le_refl _⟩, ⟨by (with_reducible repeat (first | apply Kd.S_alloc | apply Kd.S_drewN | apply Kd.S_drew)); exact HO_9.out⟩, ⟨by repeat (first | (with_reducible first | exact HB.out | apply below_alloc | apply pw_below_drewN | apply below_drew1) | exact HB.out)⟩⟩
                      case round =>
                        clear H'
                        try clear c1
                        try clear c2
                        try clear p2
                        try clear q2
                        try clear hx2
                        try clear c5
                        try clear c8
                        try clear c9
                        try clear c22
                        try clear c23
                        try clear c24
                        try clear c24b0
                        try clear c25
                        try clear c25b0
                        try clear hx295_0
                        try clear hx295_1
                        try clear hx295_2
                        try clear hx295_3
                        try clear p2
                        try clear p295
                        try clear q295
                        obtain ⟨x10_4, x12_4, rfl, rfl, HA, HK4, HO_9, HB⟩ := hrel
                        cases gk with
                        | zero => exact absurd HA.out (by simp [sennitlaw05_AlignUnique.l1])
                        | succ k4 =>
                          have H := HA.out
                          clear HA
                          simp only [sennitlaw05_AlignUnique.l1] at H
                          by_cases c26 : 0 ≤ x11_2
                          · rw [if_pos c26] at H
                            have c26b0 : decide (0 ≤ x11_2) = true := decide_eq_true c26
                            clear c26
                            by_cases c27 : x11_2 < (l2.length : Int)
                            · rw [if_pos c27] at H
                              have c27b0 : decide (x11_2 < (l2.length : Int)) = true := decide_eq_true c27
                              clear c27
                              by_cases c28 : x12_4 < ((rd_T39 l2 x11_2).f1.f1)
                              · rw [if_pos c28] at H
                                have c28b0 : decide (x12_4 < ((rd_T39 l2 x11_2).f1.f1)) = true := decide_eq_true c28
                                clear c28
                                have H' := Aside0.mk H
                                clear H
                                have p296 : 0 ≤ (x11_2 : Int) := of_decide_eq_true (by first | (with_reducible assumption) | assumption)
                                have q296 : x11_2 < (l2.length : Int) := of_decide_eq_true (by first | (with_reducible assumption) | assumption)
                                obtain ⟨ad296, A296_3, c296_3, e296, hx296_0, hx296_1, hx296_2, hx296_3, hl296_3, hi296_3⟩ := at_T39 HR2.out x11_2 p296 q296
                                obtain rfl : ad295 = ad296 := (by injection e296)
                                replace hx296_0 := (HB.out.cell (World.block_lt_of_cell? w _ hx296_0)).trans hx296_0
                                replace hx296_1 := (HB.out.cell (World.block_lt_of_cell? w _ hx296_1)).trans hx296_1
                                replace hx296_2 := (HB.out.cell (World.block_lt_of_cell? w _ hx296_2)).trans hx296_2
                                replace hx296_3 := (HB.out.cell (World.block_lt_of_cell? w _ hx296_3)).trans hx296_3
                                have HR296_3 := Aside0.mk hi296_3
                                have HC296_3 := Aside0.mk hl296_3
                                clear hi296_3 hl296_3
                                replace p296 := eq_true p296
                                replace q296 := eq_true q296
                                go_wp2
                                repeat (go_quiet (fail); try go_wp2)
                                go_loopg [10, 13, 14] k4 (fun kq v10 v13 v14 w' => ∃ (x10_5 : Bool) (x13_5 : Bool) (x14_5 : Int), v10 = .bool x10_5 ∧ v13 = .bool x13_5 ∧ v14 = .int .i64 x14_5 ∧ Aside0 (sennitlaw05_AlignUnique.l2 kq l0 l1 l2 t276 t285 x10_5 x11_2 x12_4 x13_5 x14_5 = some r) ∧ Aside0 (kq ≤ k4) ∧ Aside0 (Kd.S (Kd.slice 3 (Kd.int .i64)) 26 w' w.heap.size (fun _ => True) v288 t285) ∧ Aside0 (Below w.heap.size w w'))
                                case atStart => exact ⟨(x10_4), (true), (0), (by first | rfl | (simp; done) | (simp [*]; done)), (by first | rfl | (simp; done) | (simp [*]; done)), (by first | rfl | (simp; done) | (simp [*]; done)), H', ⟨Nat.le_refl _⟩, ⟨by (with_reducible repeat (first | apply Kd.S_alloc | apply Kd.S_drewN | apply Kd.S_drew)); exact HO_9.out⟩, ⟨by repeat (first | (with_reducible first | exact HB.out | apply below_alloc | apply pw_below_drewN | apply below_drew1) | exact HB.out)⟩⟩
                                case round =>
                                  clear H'
                                  try clear c1
                                  try clear c2
                                  try clear p2
                                  try clear q2
                                  try clear hx2
                                  try clear c5
                                  try clear c8
                                  try clear c9
                                  try clear c22
                                  try clear c23
                                  try clear c24
                                  try clear c24b0
                                  try clear c25
                                  try clear c25b0
                                  try clear c26
                                  try clear c26b0
                                  try clear c27
                                  try clear c27b0
                                  try clear c28
                                  try clear c28b0
                                  try clear hx295_0
                                  try clear hx295_1
                                  try clear hx295_2
                                  try clear hx295_3
                                  try clear hx296_0
                                  try clear hx296_1
                                  try clear hx296_2
                                  try clear hx296_3
                                  try clear p2
                                  try clear p295
                                  try clear p296
                                  try clear q2
                                  try clear q295
                                  try clear q296
                                  obtain ⟨x10_5, x13_5, x14_5, rfl, rfl, rfl, HA, HK5, HO_9, HB⟩ := hrel
                                  cases gk with
                                  | zero => exact absurd HA.out (by simp [sennitlaw05_AlignUnique.l2])
                                  | succ k5 =>
                                    have H := HA.out
                                    clear HA
                                    simp only [sennitlaw05_AlignUnique.l2] at H
                                    by_cases c29 : x14_5 < (t285.length : Int)
                                    · rw [if_pos c29] at H
                                      have c29b0 : decide (x14_5 < (t285.length : Int)) = true := decide_eq_true c29
                                      clear c29
                                      by_cases c30 : x13_5 = true
                                      · subst c30
                                        have H1 : (if 0 ≤ x14_5 then (if 0 ≤ x12_4 then (if x12_4 < ((rd_L1 t285 x14_5).length : Int) then (if x10_5 = true then (if 0 ≤ x11_2 then (if x11_2 < (l2.length : Int) then (if ((rd_T39 l2 x11_2).f0 = true) then (if x14_5 < (((rd_T39 l2 x11_2).f2).length : Int) then (sennitlaw05_AlignUnique.l2 k5 l0 l1 l2 t276 t285 ((rd (rd_L1 t285 x14_5) x12_4) == (wrap64 ((wrap64 (((rd_T36 ((rd_T39 l2 x11_2).f2) x14_5).f0) + x12_4)) - ((rd_T39 l2 x11_2).f1.f0)))) x11_2 x12_4 (decide ((rd (rd_L1 t285 x14_5) x12_4) ≥ 0)) (wrap64 (x14_5 + 1))) else (none)) else (sennitlaw05_AlignUnique.l2 k5 l0 l1 l2 t276 t285 true x11_2 x12_4 (decide ((rd (rd_L1 t285 x14_5) x12_4) ≥ 0)) (wrap64 (x14_5 + 1)))) else (none)) else (none)) else (sennitlaw05_AlignUnique.l2 k5 l0 l1 l2 t276 t285 false x11_2 x12_4 (decide ((rd (rd_L1 t285 x14_5) x12_4) ≥ 0)) (wrap64 (x14_5 + 1)))) else (none)) else (none)) else (none)) = some r := by rw [if_pos rfl] at H; exact H
                                        clear H
                                        have H := H1
                                        clear H1
                                        by_cases c31 : 0 ≤ x14_5
                                        · rw [if_pos c31] at H
                                          have c31b0 : decide (0 ≤ x14_5) = true := decide_eq_true c31
                                          clear c31
                                          by_cases c32 : 0 ≤ x12_4
                                          · rw [if_pos c32] at H
                                            have c32b0 : decide (0 ≤ x12_4) = true := decide_eq_true c32
                                            clear c32
                                            by_cases c33 : x12_4 < ((rd_L1 t285 x14_5).length : Int)
                                            · rw [if_pos c33] at H
                                              have c33b0 : decide (x12_4 < ((rd_L1 t285 x14_5).length : Int)) = true := decide_eq_true c33
                                              clear c33
                                              by_cases c34 : x10_5 = true
                                              · subst c34
                                                have H1 : (if 0 ≤ x11_2 then (if x11_2 < (l2.length : Int) then (if ((rd_T39 l2 x11_2).f0 = true) then (if x14_5 < (((rd_T39 l2 x11_2).f2).length : Int) then (sennitlaw05_AlignUnique.l2 k5 l0 l1 l2 t276 t285 ((rd (rd_L1 t285 x14_5) x12_4) == (wrap64 ((wrap64 (((rd_T36 ((rd_T39 l2 x11_2).f2) x14_5).f0) + x12_4)) - ((rd_T39 l2 x11_2).f1.f0)))) x11_2 x12_4 (decide ((rd (rd_L1 t285 x14_5) x12_4) ≥ 0)) (wrap64 (x14_5 + 1))) else (none)) else (sennitlaw05_AlignUnique.l2 k5 l0 l1 l2 t276 t285 true x11_2 x12_4 (decide ((rd (rd_L1 t285 x14_5) x12_4) ≥ 0)) (wrap64 (x14_5 + 1)))) else (none)) else (none)) = some r := by rw [if_pos rfl] at H; exact H
                                                clear H
                                                have H := H1
                                                clear H1
                                                by_cases c35 : 0 ≤ x11_2
                                                · rw [if_pos c35] at H
                                                  have c35b0 : decide (0 ≤ x11_2) = true := decide_eq_true c35
                                                  clear c35
                                                  by_cases c36 : x11_2 < (l2.length : Int)
                                                  · rw [if_pos c36] at H
                                                    have c36b0 : decide (x11_2 < (l2.length : Int)) = true := decide_eq_true c36
                                                    clear c36
                                                    obtain ⟨bq37, hbq37⟩ : ∃ b_ : Bool, b_ = ((rd_T39 l2 x11_2).f0) := ⟨_, rfl⟩
                                                    replace H : (if (bq37 = true) then (if x14_5 < (((rd_T39 l2 x11_2).f2).length : Int) then (sennitlaw05_AlignUnique.l2 k5 l0 l1 l2 t276 t285 ((rd (rd_L1 t285 x14_5) x12_4) == (wrap64 ((wrap64 (((rd_T36 ((rd_T39 l2 x11_2).f2) x14_5).f0) + x12_4)) - ((rd_T39 l2 x11_2).f1.f0)))) x11_2 x12_4 (decide ((rd (rd_L1 t285 x14_5) x12_4) ≥ 0)) (wrap64 (x14_5 + 1))) else (none)) else (sennitlaw05_AlignUnique.l2 k5 l0 l1 l2 t276 t285 true x11_2 x12_4 (decide ((rd (rd_L1 t285 x14_5) x12_4) ≥ 0)) (wrap64 (x14_5 + 1)))) = some r := by rw [← hbq37] at H; exact H
                                                    have Nbq37 := Aside0.mk hbq37
                                                    clear hbq37
                                                    by_cases c38 : (bq37 = true)
                                                    · subst c38
                                                      have H1 : (if x14_5 < (((rd_T39 l2 x11_2).f2).length : Int) then (sennitlaw05_AlignUnique.l2 k5 l0 l1 l2 t276 t285 ((rd (rd_L1 t285 x14_5) x12_4) == (wrap64 ((wrap64 (((rd_T36 ((rd_T39 l2 x11_2).f2) x14_5).f0) + x12_4)) - ((rd_T39 l2 x11_2).f1.f0)))) x11_2 x12_4 (decide ((rd (rd_L1 t285 x14_5) x12_4) ≥ 0)) (wrap64 (x14_5 + 1))) else (none)) = some r := by rw [if_pos rfl] at H; exact H
                                                      clear H
                                                      have H := H1
                                                      clear H1
                                                      by_cases c39 : x14_5 < (((rd_T39 l2 x11_2).f2).length : Int)
                                                      · rw [if_pos c39] at H
                                                        have c39b0 : decide (x14_5 < (((rd_T39 l2 x11_2).f2).length : Int)) = true := decide_eq_true c39
                                                        clear c39
                                                        have H' := Aside0.mk H
                                                        clear H
                                                        obtain ⟨Ao40, co40, eo40⟩ := Kd.S_slice HO_9.out
                                                        subst eo40
                                                        have p297 : 0 ≤ (x14_5 : Int) := of_decide_eq_true (by first | (with_reducible assumption) | assumption)
                                                        have q297 : x14_5 < (t285.length : Int) := of_decide_eq_true (by first | (with_reducible assumption) | assumption)
                                                        obtain ⟨ad297, A297_0, c297_0, e297, hx297_0, hl297_0, hi297_0⟩ := at_L1 (Kd.S_reads' HO_9.out).2.2 x14_5 p297 q297
                                                        cases e297
                                                        obtain ⟨ce297, hce297, hMe297, hcc297⟩ := Kd.S_get HO_9.out [] x14_5 p297 (by first | exact q297 | exact of_decide_eq_true (by first | (with_reducible assumption) | assumption) | (have e_ := (Kd.S_reads' HO_9.out).1; omega))
                                                        obtain ⟨ve297_0, rfl, ge297_0⟩ := hMe297
                                                        have hv297_0 := hcc297 0 _ rfl
                                                        rw [Nat.add_zero, show ((Kd.slice 3 (Kd.int .i64))).sz = 1 from rfl, Nat.mul_one] at hv297_0
                                                        replace hv297_0 := Option.some.inj (hv297_0.symm.trans hx297_0)
                                                        rw [hv297_0] at ge297_0
                                                        have HL297_0 := Aside0.mk (show Kd.R (Kd.int .i64) 3 _ _ _ _ (rd_L1 t285 x14_5) from ge297_0)
                                                        clear hv297_0 ge297_0
                                                        clear hcc297 hce297
                                                        have HR297_0 := Aside0.mk hi297_0
                                                        have HC297_0 := Aside0.mk hl297_0
                                                        clear hi297_0 hl297_0
                                                        replace p297 := eq_true p297
                                                        replace q297 := eq_true q297
                                                        have p298 : 0 ≤ (x12_4 : Int) := of_decide_eq_true (by first | (with_reducible assumption) | assumption)
                                                        have q298 : x12_4 < ((rd_L1 t285 x14_5).length : Int) := of_decide_eq_true (by first | (with_reducible assumption) | assumption)
                                                        obtain ⟨ad298, e298, hx298_0⟩ := Kd.at_int (by repeat (first | (with_reducible exact HR297_0.out) | (with_reducible refine Kd.C_alloc ?_ _) | (with_reducible refine Kd.C_drewN ?_ _) | (with_reducible refine Kd.C_drew ?_) | exact HR297_0.out)) x12_4 p298 q298
                                                        cases e298
                                                        replace p298 := eq_true p298
                                                        replace q298 := eq_true q298
                                                        have p299 : 0 ≤ (x11_2 : Int) := of_decide_eq_true (by first | (with_reducible assumption) | assumption)
                                                        have q299 : x11_2 < (l2.length : Int) := of_decide_eq_true (by first | (with_reducible assumption) | assumption)
                                                        obtain ⟨ad299, A299_3, c299_3, e299, hx299_0, hx299_1, hx299_2, hx299_3, hl299_3, hi299_3⟩ := at_T39 HR2.out x11_2 p299 q299
                                                        (try rw [← Nbq37.out] at hx299_0)
                                                        obtain rfl : ad295 = ad299 := (by injection e299)
                                                        replace hx299_0 := (HB.out.cell (World.block_lt_of_cell? w _ hx299_0)).trans hx299_0
                                                        replace hx299_1 := (HB.out.cell (World.block_lt_of_cell? w _ hx299_1)).trans hx299_1
                                                        replace hx299_2 := (HB.out.cell (World.block_lt_of_cell? w _ hx299_2)).trans hx299_2
                                                        replace hx299_3 := (HB.out.cell (World.block_lt_of_cell? w _ hx299_3)).trans hx299_3
                                                        have HR299_3 := Aside0.mk hi299_3
                                                        have HC299_3 := Aside0.mk hl299_3
                                                        clear hi299_3 hl299_3
                                                        replace p299 := eq_true p299
                                                        replace q299 := eq_true q299
                                                        have p300 : 0 ≤ (x14_5 : Int) := of_decide_eq_true (by first | (with_reducible assumption) | assumption)
                                                        have q300 : x14_5 < (t285.length : Int) := of_decide_eq_true (by first | (with_reducible assumption) | assumption)
                                                        obtain ⟨ad300, A300_0, c300_0, e300, hx300_0, hl300_0, hi300_0⟩ := at_L1 (Kd.S_reads' HO_9.out).2.2 x14_5 p300 q300
                                                        obtain rfl : ad297 = ad300 := (by injection e300)
                                                        obtain ⟨ce300, hce300, hMe300, hcc300⟩ := Kd.S_get HO_9.out [] x14_5 p300 (by first | exact q300 | exact of_decide_eq_true (by first | (with_reducible assumption) | assumption) | (have e_ := (Kd.S_reads' HO_9.out).1; omega))
                                                        obtain ⟨ve300_0, rfl, ge300_0⟩ := hMe300
                                                        have hv300_0 := hcc300 0 _ rfl
                                                        rw [Nat.add_zero, show ((Kd.slice 3 (Kd.int .i64))).sz = 1 from rfl, Nat.mul_one] at hv300_0
                                                        replace hv300_0 := Option.some.inj (hv300_0.symm.trans hx300_0)
                                                        rw [hv300_0] at ge300_0
                                                        have HL300_0 := Aside0.mk (show Kd.R (Kd.int .i64) 3 _ _ _ _ (rd_L1 t285 x14_5) from ge300_0)
                                                        clear hv300_0 ge300_0
                                                        clear hcc300 hce300
                                                        have HR300_0 := Aside0.mk hi300_0
                                                        have HC300_0 := Aside0.mk hl300_0
                                                        clear hi300_0 hl300_0
                                                        replace p300 := eq_true p300
                                                        replace q300 := eq_true q300
                                                        have ea_ := Option.some.inj (hx297_0.symm.trans hx300_0)
                                                        injection ea_ with ea_ en_ ec_
                                                        subst ea_
                                                        subst ec_
                                                        clear en_
                                                        have p301 : 0 ≤ (x12_4 : Int) := of_decide_eq_true (by first | (with_reducible assumption) | assumption)
                                                        have q301 : x12_4 < ((rd_L1 t285 x14_5).length : Int) := of_decide_eq_true (by first | (with_reducible assumption) | assumption)
                                                        obtain ⟨ad301, e301, hx301_0⟩ := Kd.at_int (by repeat (first | (with_reducible exact HR300_0.out) | (with_reducible refine Kd.C_alloc ?_ _) | (with_reducible refine Kd.C_drewN ?_ _) | (with_reducible refine Kd.C_drew ?_) | exact HR300_0.out)) x12_4 p301 q301
                                                        cases e301
                                                        replace p301 := eq_true p301
                                                        replace q301 := eq_true q301
                                                        have p302 : 0 ≤ (x11_2 : Int) := of_decide_eq_true (by first | (with_reducible assumption) | assumption)
                                                        have q302 : x11_2 < (l2.length : Int) := of_decide_eq_true (by first | (with_reducible assumption) | assumption)
                                                        obtain ⟨ad302, A302_3, c302_3, e302, hx302_0, hx302_1, hx302_2, hx302_3, hl302_3, hi302_3⟩ := at_T39 HR2.out x11_2 p302 q302
                                                        (try rw [← Nbq37.out] at hx302_0)
                                                        obtain rfl : ad295 = ad302 := (by injection e302)
                                                        replace hx302_0 := (HB.out.cell (World.block_lt_of_cell? w _ hx302_0)).trans hx302_0
                                                        replace hx302_1 := (HB.out.cell (World.block_lt_of_cell? w _ hx302_1)).trans hx302_1
                                                        replace hx302_2 := (HB.out.cell (World.block_lt_of_cell? w _ hx302_2)).trans hx302_2
                                                        replace hx302_3 := (HB.out.cell (World.block_lt_of_cell? w _ hx302_3)).trans hx302_3
                                                        have HR302_3 := Aside0.mk hi302_3
                                                        have HC302_3 := Aside0.mk hl302_3
                                                        clear hi302_3 hl302_3
                                                        replace p302 := eq_true p302
                                                        replace q302 := eq_true q302
                                                        have ea_ := Option.some.inj (hx299_3.symm.trans hx302_3)
                                                        injection ea_ with ea_ en_ ec_
                                                        subst ea_
                                                        subst ec_
                                                        clear en_
                                                        have p303 : 0 ≤ (x14_5 : Int) := of_decide_eq_true (by first | (with_reducible assumption) | assumption)
                                                        have q303 : x14_5 < (((rd_T39 l2 x11_2).f2).length : Int) := of_decide_eq_true (by first | (with_reducible assumption) | assumption)
                                                        obtain ⟨ad303, e303, hx303_0, hx303_1⟩ := at_T36 HR302_3.out x14_5 p303 q303
                                                        cases e303
                                                        replace hx303_0 := (HB.out.cell (World.block_lt_of_cell? w _ hx303_0)).trans hx303_0
                                                        replace hx303_1 := (HB.out.cell (World.block_lt_of_cell? w _ hx303_1)).trans hx303_1
                                                        replace p303 := eq_true p303
                                                        replace q303 := eq_true q303
                                                        have p304 : 0 ≤ (x11_2 : Int) := of_decide_eq_true (by first | (with_reducible assumption) | assumption)
                                                        have q304 : x11_2 < (l2.length : Int) := of_decide_eq_true (by first | (with_reducible assumption) | assumption)
                                                        obtain ⟨ad304, A304_3, c304_3, e304, hx304_0, hx304_1, hx304_2, hx304_3, hl304_3, hi304_3⟩ := at_T39 HR2.out x11_2 p304 q304
                                                        (try rw [← Nbq37.out] at hx304_0)
                                                        obtain rfl : ad295 = ad304 := (by injection e304)
                                                        replace hx304_0 := (HB.out.cell (World.block_lt_of_cell? w _ hx304_0)).trans hx304_0
                                                        replace hx304_1 := (HB.out.cell (World.block_lt_of_cell? w _ hx304_1)).trans hx304_1
                                                        replace hx304_2 := (HB.out.cell (World.block_lt_of_cell? w _ hx304_2)).trans hx304_2
                                                        replace hx304_3 := (HB.out.cell (World.block_lt_of_cell? w _ hx304_3)).trans hx304_3
                                                        have HR304_3 := Aside0.mk hi304_3
                                                        have HC304_3 := Aside0.mk hl304_3
                                                        clear hi304_3 hl304_3
                                                        replace p304 := eq_true p304
                                                        replace q304 := eq_true q304
                                                        have ea_ := Option.some.inj (hx299_3.symm.trans hx304_3)
                                                        injection ea_ with ea_ en_ ec_
                                                        subst ea_
                                                        subst ec_
                                                        clear en_
                                                        go_wp2
                                                        repeat (go_quiet (fail); try go_wp2)
                                                        go_roundg k5
                                                        case measure => have := HJ4.out; have := HK2.out; have := HJ20.out; have := HK4.out; have := HK5.out; omega
                                                        case rel => exact ⟨(((rd (rd_L1 t285 x14_5) x12_4) == (wrap64 ((wrap64 (((rd_T36 ((rd_T39 l2 x11_2).f2) x14_5).f0) + x12_4)) - ((rd_T39 l2 x11_2).f1.f0))))), (decide ((rd (rd_L1 t285 x14_5) x12_4) ≥ 0)), (wrap64 (x14_5 + 1)), (by first | rfl | (simp; done) | (simp [*]; done)), (by first | rfl | (simp; done) | (simp [*]; done)), (by first | rfl | (simp; done) | (simp [*]; done)), H', ⟨by have := HJ4.out; have := HK2.out; have := HJ20.out; have := HK4.out; have := HK5.out; omega⟩, ⟨by (with_reducible repeat (first | apply Kd.S_alloc | apply Kd.S_drewN | apply Kd.S_drew)); exact HO_9.out⟩, ⟨by repeat (first | (with_reducible first | exact HB.out | apply below_alloc | apply pw_below_drewN | apply below_drew1) | exact HB.out)⟩⟩
                                                      · rw [if_neg c39] at H
                                                        exact absurd H (by simp)
                                                    · replace c38 := Bool.eq_false_iff.mpr c38
                                                      subst c38
                                                      have H1 : (sennitlaw05_AlignUnique.l2 k5 l0 l1 l2 t276 t285 true x11_2 x12_4 (decide ((rd (rd_L1 t285 x14_5) x12_4) ≥ 0)) (wrap64 (x14_5 + 1))) = some r := by rw [if_neg (show ¬ (false = true) by decide)] at H; exact H
                                                      clear H
                                                      have H := H1
                                                      clear H1
                                                      have H' := Aside0.mk H
                                                      clear H
                                                      obtain ⟨Ao41, co41, eo41⟩ := Kd.S_slice HO_9.out
                                                      subst eo41
                                                      have p297 : 0 ≤ (x14_5 : Int) := of_decide_eq_true (by first | (with_reducible assumption) | assumption)
                                                      have q297 : x14_5 < (t285.length : Int) := of_decide_eq_true (by first | (with_reducible assumption) | assumption)
                                                      obtain ⟨ad297, A297_0, c297_0, e297, hx297_0, hl297_0, hi297_0⟩ := at_L1 (Kd.S_reads' HO_9.out).2.2 x14_5 p297 q297
                                                      cases e297
                                                      obtain ⟨ce297, hce297, hMe297, hcc297⟩ := Kd.S_get HO_9.out [] x14_5 p297 (by first | exact q297 | exact of_decide_eq_true (by first | (with_reducible assumption) | assumption) | (have e_ := (Kd.S_reads' HO_9.out).1; omega))
                                                      obtain ⟨ve297_0, rfl, ge297_0⟩ := hMe297
                                                      have hv297_0 := hcc297 0 _ rfl
                                                      rw [Nat.add_zero, show ((Kd.slice 3 (Kd.int .i64))).sz = 1 from rfl, Nat.mul_one] at hv297_0
                                                      replace hv297_0 := Option.some.inj (hv297_0.symm.trans hx297_0)
                                                      rw [hv297_0] at ge297_0
                                                      have HL297_0 := Aside0.mk (show Kd.R (Kd.int .i64) 3 _ _ _ _ (rd_L1 t285 x14_5) from ge297_0)
                                                      clear hv297_0 ge297_0
                                                      clear hcc297 hce297
                                                      have HR297_0 := Aside0.mk hi297_0
                                                      have HC297_0 := Aside0.mk hl297_0
                                                      clear hi297_0 hl297_0
                                                      replace p297 := eq_true p297
                                                      replace q297 := eq_true q297
                                                      have p298 : 0 ≤ (x12_4 : Int) := of_decide_eq_true (by first | (with_reducible assumption) | assumption)
                                                      have q298 : x12_4 < ((rd_L1 t285 x14_5).length : Int) := of_decide_eq_true (by first | (with_reducible assumption) | assumption)
                                                      obtain ⟨ad298, e298, hx298_0⟩ := Kd.at_int (by repeat (first | (with_reducible exact HR297_0.out) | (with_reducible refine Kd.C_alloc ?_ _) | (with_reducible refine Kd.C_drewN ?_ _) | (with_reducible refine Kd.C_drew ?_) | exact HR297_0.out)) x12_4 p298 q298
                                                      cases e298
                                                      replace p298 := eq_true p298
                                                      replace q298 := eq_true q298
                                                      have p299 : 0 ≤ (x11_2 : Int) := of_decide_eq_true (by first | (with_reducible assumption) | assumption)
                                                      have q299 : x11_2 < (l2.length : Int) := of_decide_eq_true (by first | (with_reducible assumption) | assumption)
                                                      obtain ⟨ad299, A299_3, c299_3, e299, hx299_0, hx299_1, hx299_2, hx299_3, hl299_3, hi299_3⟩ := at_T39 HR2.out x11_2 p299 q299
                                                      (try rw [← Nbq37.out] at hx299_0)
                                                      obtain rfl : ad295 = ad299 := (by injection e299)
                                                      replace hx299_0 := (HB.out.cell (World.block_lt_of_cell? w _ hx299_0)).trans hx299_0
                                                      replace hx299_1 := (HB.out.cell (World.block_lt_of_cell? w _ hx299_1)).trans hx299_1
                                                      replace hx299_2 := (HB.out.cell (World.block_lt_of_cell? w _ hx299_2)).trans hx299_2
                                                      replace hx299_3 := (HB.out.cell (World.block_lt_of_cell? w _ hx299_3)).trans hx299_3
                                                      have HR299_3 := Aside0.mk hi299_3
                                                      have HC299_3 := Aside0.mk hl299_3
                                                      clear hi299_3 hl299_3
                                                      replace p299 := eq_true p299
                                                      replace q299 := eq_true q299
                                                      go_wp2
                                                      repeat (go_quiet (fail); try go_wp2)
                                                      go_roundg k5
                                                      case measure => have := HJ4.out; have := HK2.out; have := HJ20.out; have := HK4.out; have := HK5.out; omega
                                                      case rel => exact ⟨(true), (decide ((rd (rd_L1 t285 x14_5) x12_4) ≥ 0)), (wrap64 (x14_5 + 1)), (by first | rfl | (simp; done) | (simp [*]; done)), (by first | rfl | (simp; done) | (simp [*]; done)), (by first | rfl | (simp; done) | (simp [*]; done)), H', ⟨by have := HJ4.out; have := HK2.out; have := HJ20.out; have := HK4.out; have := HK5.out; omega⟩, ⟨by (with_reducible repeat (first | apply Kd.S_alloc | apply Kd.S_drewN | apply Kd.S_drew)); exact HO_9.out⟩, ⟨by repeat (first | (with_reducible first | exact HB.out | apply below_alloc | apply pw_below_drewN | apply below_drew1) | exact HB.out)⟩⟩
                                                  · rw [if_neg c36] at H
                                                    exact absurd H (by simp)
                                                · rw [if_neg c35] at H
                                                  exact absurd H (by simp)
                                              · replace c34 := Bool.eq_false_iff.mpr c34
                                                subst c34
                                                have H1 : (sennitlaw05_AlignUnique.l2 k5 l0 l1 l2 t276 t285 false x11_2 x12_4 (decide ((rd (rd_L1 t285 x14_5) x12_4) ≥ 0)) (wrap64 (x14_5 + 1))) = some r := by rw [if_neg (show ¬ (false = true) by decide)] at H; exact H
                                                clear H
                                                have H := H1
                                                clear H1
                                                have H' := Aside0.mk H
                                                clear H
                                                obtain ⟨Ao42, co42, eo42⟩ := Kd.S_slice HO_9.out
                                                subst eo42
                                                have p297 : 0 ≤ (x14_5 : Int) := of_decide_eq_true (by first | (with_reducible assumption) | assumption)
                                                have q297 : x14_5 < (t285.length : Int) := of_decide_eq_true (by first | (with_reducible assumption) | assumption)
                                                obtain ⟨ad297, A297_0, c297_0, e297, hx297_0, hl297_0, hi297_0⟩ := at_L1 (Kd.S_reads' HO_9.out).2.2 x14_5 p297 q297
                                                cases e297
                                                obtain ⟨ce297, hce297, hMe297, hcc297⟩ := Kd.S_get HO_9.out [] x14_5 p297 (by first | exact q297 | exact of_decide_eq_true (by first | (with_reducible assumption) | assumption) | (have e_ := (Kd.S_reads' HO_9.out).1; omega))
                                                obtain ⟨ve297_0, rfl, ge297_0⟩ := hMe297
                                                have hv297_0 := hcc297 0 _ rfl
                                                rw [Nat.add_zero, show ((Kd.slice 3 (Kd.int .i64))).sz = 1 from rfl, Nat.mul_one] at hv297_0
                                                replace hv297_0 := Option.some.inj (hv297_0.symm.trans hx297_0)
                                                rw [hv297_0] at ge297_0
                                                have HL297_0 := Aside0.mk (show Kd.R (Kd.int .i64) 3 _ _ _ _ (rd_L1 t285 x14_5) from ge297_0)
                                                clear hv297_0 ge297_0
                                                clear hcc297 hce297
                                                have HR297_0 := Aside0.mk hi297_0
                                                have HC297_0 := Aside0.mk hl297_0
                                                clear hi297_0 hl297_0
                                                replace p297 := eq_true p297
                                                replace q297 := eq_true q297
                                                have p298 : 0 ≤ (x12_4 : Int) := of_decide_eq_true (by first | (with_reducible assumption) | assumption)
                                                have q298 : x12_4 < ((rd_L1 t285 x14_5).length : Int) := of_decide_eq_true (by first | (with_reducible assumption) | assumption)
                                                obtain ⟨ad298, e298, hx298_0⟩ := Kd.at_int (by repeat (first | (with_reducible exact HR297_0.out) | (with_reducible refine Kd.C_alloc ?_ _) | (with_reducible refine Kd.C_drewN ?_ _) | (with_reducible refine Kd.C_drew ?_) | exact HR297_0.out)) x12_4 p298 q298
                                                cases e298
                                                replace p298 := eq_true p298
                                                replace q298 := eq_true q298
                                                go_wp2
                                                repeat (go_quiet (fail); try go_wp2)
                                                go_roundg k5
                                                case measure => have := HJ4.out; have := HK2.out; have := HJ20.out; have := HK4.out; have := HK5.out; omega
                                                case rel => exact ⟨(false), (decide ((rd (rd_L1 t285 x14_5) x12_4) ≥ 0)), (wrap64 (x14_5 + 1)), (by first | rfl | (simp; done) | (simp [*]; done)), (by first | rfl | (simp; done) | (simp [*]; done)), (by first | rfl | (simp; done) | (simp [*]; done)), H', ⟨by have := HJ4.out; have := HK2.out; have := HJ20.out; have := HK4.out; have := HK5.out; omega⟩, ⟨by (with_reducible repeat (first | apply Kd.S_alloc | apply Kd.S_drewN | apply Kd.S_drew)); exact HO_9.out⟩, ⟨by repeat (first | (with_reducible first | exact HB.out | apply below_alloc | apply pw_below_drewN | apply below_drew1) | exact HB.out)⟩⟩
                                            · rw [if_neg c33] at H
                                              exact absurd H (by simp)
                                          · rw [if_neg c32] at H
                                            exact absurd H (by simp)
                                        · rw [if_neg c31] at H
                                          exact absurd H (by simp)
                                      · replace c30 := Bool.eq_false_iff.mpr c30
                                        subst c30
                                        have H1 : (if x10_5 = true then (if 0 ≤ x11_2 then (if x11_2 < (l2.length : Int) then (if ((rd_T39 l2 x11_2).f0 = true) then (if 0 ≤ x14_5 then (if 0 ≤ x12_4 then (if x12_4 < ((rd_L1 t285 x14_5).length : Int) then (if x14_5 < (((rd_T39 l2 x11_2).f2).length : Int) then (sennitlaw05_AlignUnique.l2 k5 l0 l1 l2 t276 t285 ((rd (rd_L1 t285 x14_5) x12_4) == (wrap64 ((wrap64 (((rd_T36 ((rd_T39 l2 x11_2).f2) x14_5).f0) + x12_4)) - ((rd_T39 l2 x11_2).f1.f0)))) x11_2 x12_4 false (wrap64 (x14_5 + 1))) else (none)) else (none)) else (none)) else (none)) else (sennitlaw05_AlignUnique.l2 k5 l0 l1 l2 t276 t285 true x11_2 x12_4 false (wrap64 (x14_5 + 1)))) else (none)) else (none)) else (sennitlaw05_AlignUnique.l2 k5 l0 l1 l2 t276 t285 false x11_2 x12_4 false (wrap64 (x14_5 + 1)))) = some r := by rw [if_neg (show ¬ (false = true) by decide)] at H; exact H
                                        clear H
                                        have H := H1
                                        clear H1
                                        by_cases c43 : x10_5 = true
                                        · subst c43
                                          have H1 : (if 0 ≤ x11_2 then (if x11_2 < (l2.length : Int) then (if ((rd_T39 l2 x11_2).f0 = true) then (if 0 ≤ x14_5 then (if 0 ≤ x12_4 then (if x12_4 < ((rd_L1 t285 x14_5).length : Int) then (if x14_5 < (((rd_T39 l2 x11_2).f2).length : Int) then (sennitlaw05_AlignUnique.l2 k5 l0 l1 l2 t276 t285 ((rd (rd_L1 t285 x14_5) x12_4) == (wrap64 ((wrap64 (((rd_T36 ((rd_T39 l2 x11_2).f2) x14_5).f0) + x12_4)) - ((rd_T39 l2 x11_2).f1.f0)))) x11_2 x12_4 false (wrap64 (x14_5 + 1))) else (none)) else (none)) else (none)) else (none)) else (sennitlaw05_AlignUnique.l2 k5 l0 l1 l2 t276 t285 true x11_2 x12_4 false (wrap64 (x14_5 + 1)))) else (none)) else (none)) = some r := by rw [if_pos rfl] at H; exact H
                                          clear H
                                          have H := H1
                                          clear H1
                                          by_cases c44 : 0 ≤ x11_2
                                          · rw [if_pos c44] at H
                                            have c44b0 : decide (0 ≤ x11_2) = true := decide_eq_true c44
                                            clear c44
                                            by_cases c45 : x11_2 < (l2.length : Int)
                                            · rw [if_pos c45] at H
                                              have c45b0 : decide (x11_2 < (l2.length : Int)) = true := decide_eq_true c45
                                              clear c45
                                              obtain ⟨bq46, hbq46⟩ : ∃ b_ : Bool, b_ = ((rd_T39 l2 x11_2).f0) := ⟨_, rfl⟩
                                              replace H : (if (bq46 = true) then (if 0 ≤ x14_5 then (if 0 ≤ x12_4 then (if x12_4 < ((rd_L1 t285 x14_5).length : Int) then (if x14_5 < (((rd_T39 l2 x11_2).f2).length : Int) then (sennitlaw05_AlignUnique.l2 k5 l0 l1 l2 t276 t285 ((rd (rd_L1 t285 x14_5) x12_4) == (wrap64 ((wrap64 (((rd_T36 ((rd_T39 l2 x11_2).f2) x14_5).f0) + x12_4)) - ((rd_T39 l2 x11_2).f1.f0)))) x11_2 x12_4 false (wrap64 (x14_5 + 1))) else (none)) else (none)) else (none)) else (none)) else (sennitlaw05_AlignUnique.l2 k5 l0 l1 l2 t276 t285 true x11_2 x12_4 false (wrap64 (x14_5 + 1)))) = some r := by rw [← hbq46] at H; exact H
                                              have Nbq46 := Aside0.mk hbq46
                                              clear hbq46
                                              by_cases c47 : (bq46 = true)
                                              · subst c47
                                                have H1 : (if 0 ≤ x14_5 then (if 0 ≤ x12_4 then (if x12_4 < ((rd_L1 t285 x14_5).length : Int) then (if x14_5 < (((rd_T39 l2 x11_2).f2).length : Int) then (sennitlaw05_AlignUnique.l2 k5 l0 l1 l2 t276 t285 ((rd (rd_L1 t285 x14_5) x12_4) == (wrap64 ((wrap64 (((rd_T36 ((rd_T39 l2 x11_2).f2) x14_5).f0) + x12_4)) - ((rd_T39 l2 x11_2).f1.f0)))) x11_2 x12_4 false (wrap64 (x14_5 + 1))) else (none)) else (none)) else (none)) else (none)) = some r := by rw [if_pos rfl] at H; exact H
                                                clear H
                                                have H := H1
                                                clear H1
                                                by_cases c48 : 0 ≤ x14_5
                                                · rw [if_pos c48] at H
                                                  have c48b0 : decide (0 ≤ x14_5) = true := decide_eq_true c48
                                                  clear c48
                                                  by_cases c49 : 0 ≤ x12_4
                                                  · rw [if_pos c49] at H
                                                    have c49b0 : decide (0 ≤ x12_4) = true := decide_eq_true c49
                                                    clear c49
                                                    by_cases c50 : x12_4 < ((rd_L1 t285 x14_5).length : Int)
                                                    · rw [if_pos c50] at H
                                                      have c50b0 : decide (x12_4 < ((rd_L1 t285 x14_5).length : Int)) = true := decide_eq_true c50
                                                      clear c50
                                                      by_cases c51 : x14_5 < (((rd_T39 l2 x11_2).f2).length : Int)
                                                      · rw [if_pos c51] at H
                                                        have c51b0 : decide (x14_5 < (((rd_T39 l2 x11_2).f2).length : Int)) = true := decide_eq_true c51
                                                        clear c51
                                                        have H' := Aside0.mk H
                                                        clear H
                                                        obtain ⟨Ao52, co52, eo52⟩ := Kd.S_slice HO_9.out
                                                        subst eo52
                                                        have p305 : 0 ≤ (x11_2 : Int) := of_decide_eq_true (by first | (with_reducible assumption) | assumption)
                                                        have q305 : x11_2 < (l2.length : Int) := of_decide_eq_true (by first | (with_reducible assumption) | assumption)
                                                        obtain ⟨ad305, A305_3, c305_3, e305, hx305_0, hx305_1, hx305_2, hx305_3, hl305_3, hi305_3⟩ := at_T39 HR2.out x11_2 p305 q305
                                                        (try rw [← Nbq46.out] at hx305_0)
                                                        obtain rfl : ad295 = ad305 := (by injection e305)
                                                        replace hx305_0 := (HB.out.cell (World.block_lt_of_cell? w _ hx305_0)).trans hx305_0
                                                        replace hx305_1 := (HB.out.cell (World.block_lt_of_cell? w _ hx305_1)).trans hx305_1
                                                        replace hx305_2 := (HB.out.cell (World.block_lt_of_cell? w _ hx305_2)).trans hx305_2
                                                        replace hx305_3 := (HB.out.cell (World.block_lt_of_cell? w _ hx305_3)).trans hx305_3
                                                        have HR305_3 := Aside0.mk hi305_3
                                                        have HC305_3 := Aside0.mk hl305_3
                                                        clear hi305_3 hl305_3
                                                        replace p305 := eq_true p305
                                                        replace q305 := eq_true q305
                                                        have p306 : 0 ≤ (x14_5 : Int) := of_decide_eq_true (by first | (with_reducible assumption) | assumption)
                                                        have q306 : x14_5 < (t285.length : Int) := of_decide_eq_true (by first | (with_reducible assumption) | assumption)
                                                        obtain ⟨ad306, A306_0, c306_0, e306, hx306_0, hl306_0, hi306_0⟩ := at_L1 (Kd.S_reads' HO_9.out).2.2 x14_5 p306 q306
                                                        cases e306
                                                        obtain ⟨ce306, hce306, hMe306, hcc306⟩ := Kd.S_get HO_9.out [] x14_5 p306 (by first | exact q306 | exact of_decide_eq_true (by first | (with_reducible assumption) | assumption) | (have e_ := (Kd.S_reads' HO_9.out).1; omega))
                                                        obtain ⟨ve306_0, rfl, ge306_0⟩ := hMe306
                                                        have hv306_0 := hcc306 0 _ rfl
                                                        rw [Nat.add_zero, show ((Kd.slice 3 (Kd.int .i64))).sz = 1 from rfl, Nat.mul_one] at hv306_0
                                                        replace hv306_0 := Option.some.inj (hv306_0.symm.trans hx306_0)
                                                        rw [hv306_0] at ge306_0
                                                        have HL306_0 := Aside0.mk (show Kd.R (Kd.int .i64) 3 _ _ _ _ (rd_L1 t285 x14_5) from ge306_0)
                                                        clear hv306_0 ge306_0
                                                        clear hcc306 hce306
                                                        have HR306_0 := Aside0.mk hi306_0
                                                        have HC306_0 := Aside0.mk hl306_0
                                                        clear hi306_0 hl306_0
                                                        replace p306 := eq_true p306
                                                        replace q306 := eq_true q306
                                                        have p307 : 0 ≤ (x12_4 : Int) := of_decide_eq_true (by first | (with_reducible assumption) | assumption)
                                                        have q307 : x12_4 < ((rd_L1 t285 x14_5).length : Int) := of_decide_eq_true (by first | (with_reducible assumption) | assumption)
                                                        obtain ⟨ad307, e307, hx307_0⟩ := Kd.at_int (by repeat (first | (with_reducible exact HR306_0.out) | (with_reducible refine Kd.C_alloc ?_ _) | (with_reducible refine Kd.C_drewN ?_ _) | (with_reducible refine Kd.C_drew ?_) | exact HR306_0.out)) x12_4 p307 q307
                                                        cases e307
                                                        replace p307 := eq_true p307
                                                        replace q307 := eq_true q307
                                                        have p308 : 0 ≤ (x11_2 : Int) := of_decide_eq_true (by first | (with_reducible assumption) | assumption)
                                                        have q308 : x11_2 < (l2.length : Int) := of_decide_eq_true (by first | (with_reducible assumption) | assumption)
                                                        obtain ⟨ad308, A308_3, c308_3, e308, hx308_0, hx308_1, hx308_2, hx308_3, hl308_3, hi308_3⟩ := at_T39 HR2.out x11_2 p308 q308
                                                        (try rw [← Nbq46.out] at hx308_0)
                                                        obtain rfl : ad295 = ad308 := (by injection e308)
                                                        replace hx308_0 := (HB.out.cell (World.block_lt_of_cell? w _ hx308_0)).trans hx308_0
                                                        replace hx308_1 := (HB.out.cell (World.block_lt_of_cell? w _ hx308_1)).trans hx308_1
                                                        replace hx308_2 := (HB.out.cell (World.block_lt_of_cell? w _ hx308_2)).trans hx308_2
                                                        replace hx308_3 := (HB.out.cell (World.block_lt_of_cell? w _ hx308_3)).trans hx308_3
                                                        have HR308_3 := Aside0.mk hi308_3
                                                        have HC308_3 := Aside0.mk hl308_3
                                                        clear hi308_3 hl308_3
                                                        replace p308 := eq_true p308
                                                        replace q308 := eq_true q308
                                                        have ea_ := Option.some.inj (hx305_3.symm.trans hx308_3)
                                                        injection ea_ with ea_ en_ ec_
                                                        subst ea_
                                                        subst ec_
                                                        clear en_
                                                        have p309 : 0 ≤ (x14_5 : Int) := of_decide_eq_true (by first | (with_reducible assumption) | assumption)
                                                        have q309 : x14_5 < (((rd_T39 l2 x11_2).f2).length : Int) := of_decide_eq_true (by first | (with_reducible assumption) | assumption)
                                                        obtain ⟨ad309, e309, hx309_0, hx309_1⟩ := at_T36 HR308_3.out x14_5 p309 q309
                                                        cases e309
                                                        replace hx309_0 := (HB.out.cell (World.block_lt_of_cell? w _ hx309_0)).trans hx309_0
                                                        replace hx309_1 := (HB.out.cell (World.block_lt_of_cell? w _ hx309_1)).trans hx309_1
                                                        replace p309 := eq_true p309
                                                        replace q309 := eq_true q309
                                                        have p310 : 0 ≤ (x11_2 : Int) := of_decide_eq_true (by first | (with_reducible assumption) | assumption)
                                                        have q310 : x11_2 < (l2.length : Int) := of_decide_eq_true (by first | (with_reducible assumption) | assumption)
                                                        obtain ⟨ad310, A310_3, c310_3, e310, hx310_0, hx310_1, hx310_2, hx310_3, hl310_3, hi310_3⟩ := at_T39 HR2.out x11_2 p310 q310
                                                        (try rw [← Nbq46.out] at hx310_0)
                                                        obtain rfl : ad295 = ad310 := (by injection e310)
                                                        replace hx310_0 := (HB.out.cell (World.block_lt_of_cell? w _ hx310_0)).trans hx310_0
                                                        replace hx310_1 := (HB.out.cell (World.block_lt_of_cell? w _ hx310_1)).trans hx310_1
                                                        replace hx310_2 := (HB.out.cell (World.block_lt_of_cell? w _ hx310_2)).trans hx310_2
                                                        replace hx310_3 := (HB.out.cell (World.block_lt_of_cell? w _ hx310_3)).trans hx310_3
                                                        have HR310_3 := Aside0.mk hi310_3
                                                        have HC310_3 := Aside0.mk hl310_3
                                                        clear hi310_3 hl310_3
                                                        replace p310 := eq_true p310
                                                        replace q310 := eq_true q310
                                                        have ea_ := Option.some.inj (hx305_3.symm.trans hx310_3)
                                                        injection ea_ with ea_ en_ ec_
                                                        subst ea_
                                                        subst ec_
                                                        clear en_
                                                        go_wp2
                                                        repeat (go_quiet (fail); try go_wp2)
                                                        go_roundg k5
                                                        case measure => have := HJ4.out; have := HK2.out; have := HJ20.out; have := HK4.out; have := HK5.out; omega
                                                        case rel => exact ⟨(((rd (rd_L1 t285 x14_5) x12_4) == (wrap64 ((wrap64 (((rd_T36 ((rd_T39 l2 x11_2).f2) x14_5).f0) + x12_4)) - ((rd_T39 l2 x11_2).f1.f0))))), (false), (wrap64 (x14_5 + 1)), (by first | rfl | (simp; done) | (simp [*]; done)), (by first | rfl | (simp; done) | (simp [*]; done)), (by first | rfl | (simp; done) | (simp [*]; done)), H', ⟨by have := HJ4.out; have := HK2.out; have := HJ20.out; have := HK4.out; have := HK5.out; omega⟩, ⟨by (with_reducible repeat (first | apply Kd.S_alloc | apply Kd.S_drewN | apply Kd.S_drew)); exact HO_9.out⟩, ⟨by repeat (first | (with_reducible first | exact HB.out | apply below_alloc | apply pw_below_drewN | apply below_drew1) | exact HB.out)⟩⟩
                                                      · rw [if_neg c51] at H
                                                        exact absurd H (by simp)
                                                    · rw [if_neg c50] at H
                                                      exact absurd H (by simp)
                                                  · rw [if_neg c49] at H
                                                    exact absurd H (by simp)
                                                · rw [if_neg c48] at H
                                                  exact absurd H (by simp)
                                              · replace c47 := Bool.eq_false_iff.mpr c47
                                                subst c47
                                                have H1 : (sennitlaw05_AlignUnique.l2 k5 l0 l1 l2 t276 t285 true x11_2 x12_4 false (wrap64 (x14_5 + 1))) = some r := by rw [if_neg (show ¬ (false = true) by decide)] at H; exact H
                                                clear H
                                                have H := H1
                                                clear H1
                                                have H' := Aside0.mk H
                                                clear H
                                                obtain ⟨Ao53, co53, eo53⟩ := Kd.S_slice HO_9.out
                                                subst eo53
                                                have p305 : 0 ≤ (x11_2 : Int) := of_decide_eq_true (by first | (with_reducible assumption) | assumption)
                                                have q305 : x11_2 < (l2.length : Int) := of_decide_eq_true (by first | (with_reducible assumption) | assumption)
                                                obtain ⟨ad305, A305_3, c305_3, e305, hx305_0, hx305_1, hx305_2, hx305_3, hl305_3, hi305_3⟩ := at_T39 HR2.out x11_2 p305 q305
                                                (try rw [← Nbq46.out] at hx305_0)
                                                obtain rfl : ad295 = ad305 := (by injection e305)
                                                replace hx305_0 := (HB.out.cell (World.block_lt_of_cell? w _ hx305_0)).trans hx305_0
                                                replace hx305_1 := (HB.out.cell (World.block_lt_of_cell? w _ hx305_1)).trans hx305_1
                                                replace hx305_2 := (HB.out.cell (World.block_lt_of_cell? w _ hx305_2)).trans hx305_2
                                                replace hx305_3 := (HB.out.cell (World.block_lt_of_cell? w _ hx305_3)).trans hx305_3
                                                have HR305_3 := Aside0.mk hi305_3
                                                have HC305_3 := Aside0.mk hl305_3
                                                clear hi305_3 hl305_3
                                                replace p305 := eq_true p305
                                                replace q305 := eq_true q305
                                                go_wp2
                                                repeat (go_quiet (fail); try go_wp2)
                                                go_roundg k5
                                                case measure => have := HJ4.out; have := HK2.out; have := HJ20.out; have := HK4.out; have := HK5.out; omega
                                                case rel => exact ⟨(true), (false), (wrap64 (x14_5 + 1)), (by first | rfl | (simp; done) | (simp [*]; done)), (by first | rfl | (simp; done) | (simp [*]; done)), (by first | rfl | (simp; done) | (simp [*]; done)), H', ⟨by have := HJ4.out; have := HK2.out; have := HJ20.out; have := HK4.out; have := HK5.out; omega⟩, ⟨by (with_reducible repeat (first | apply Kd.S_alloc | apply Kd.S_drewN | apply Kd.S_drew)); exact HO_9.out⟩, ⟨by repeat (first | (with_reducible first | exact HB.out | apply below_alloc | apply pw_below_drewN | apply below_drew1) | exact HB.out)⟩⟩
                                            · rw [if_neg c45] at H
                                              exact absurd H (by simp)
                                          · rw [if_neg c44] at H
                                            exact absurd H (by simp)
                                        · replace c43 := Bool.eq_false_iff.mpr c43
                                          subst c43
                                          have H1 : (sennitlaw05_AlignUnique.l2 k5 l0 l1 l2 t276 t285 false x11_2 x12_4 false (wrap64 (x14_5 + 1))) = some r := by rw [if_neg (show ¬ (false = true) by decide)] at H; exact H
                                          clear H
                                          have H := H1
                                          clear H1
                                          have H' := Aside0.mk H
                                          clear H
                                          obtain ⟨Ao54, co54, eo54⟩ := Kd.S_slice HO_9.out
                                          subst eo54
                                          go_wp2
                                          repeat (go_quiet (fail); try go_wp2)
                                          go_roundg k5
                                          case measure => have := HJ4.out; have := HK2.out; have := HJ20.out; have := HK4.out; have := HK5.out; omega
                                          case rel => exact ⟨(false), (false), (wrap64 (x14_5 + 1)), (by first | rfl | (simp; done) | (simp [*]; done)), (by first | rfl | (simp; done) | (simp [*]; done)), (by first | rfl | (simp; done) | (simp [*]; done)), H', ⟨by have := HJ4.out; have := HK2.out; have := HJ20.out; have := HK4.out; have := HK5.out; omega⟩, ⟨by (with_reducible repeat (first | apply Kd.S_alloc | apply Kd.S_drewN | apply Kd.S_drew)); exact HO_9.out⟩, ⟨by repeat (first | (with_reducible first | exact HB.out | apply below_alloc | apply pw_below_drewN | apply below_drew1) | exact HB.out)⟩⟩
                                    · rw [if_neg c29] at H
                                      have c29b0 : decide (x14_5 < (t285.length : Int)) = false := decide_eq_false c29
                                      clear c29
                                      by_cases c55 : x10_5 = true
                                      · subst c55
                                        have H1 : (if 0 ≤ x11_2 then (if x11_2 < (l2.length : Int) then (sennitlaw05_AlignUnique.l1 k5 l0 l1 l2 t276 t285 (x13_5 == ((rd_T39 l2 x11_2).f0)) x11_2 (wrap64 (x12_4 + 1))) else (none)) else (none)) = some r := by rw [if_pos rfl] at H; exact H
                                        clear H
                                        have H := H1
                                        clear H1
                                        by_cases c56 : 0 ≤ x11_2
                                        · rw [if_pos c56] at H
                                          have c56b0 : decide (0 ≤ x11_2) = true := decide_eq_true c56
                                          clear c56
                                          by_cases c57 : x11_2 < (l2.length : Int)
                                          · rw [if_pos c57] at H
                                            have c57b0 : decide (x11_2 < (l2.length : Int)) = true := decide_eq_true c57
                                            clear c57
                                            have H' := Aside0.mk H
                                            clear H
                                            obtain ⟨Ao58, co58, eo58⟩ := Kd.S_slice HO_9.out
                                            subst eo58
                                            have p311 : 0 ≤ (x11_2 : Int) := of_decide_eq_true (by first | (with_reducible assumption) | assumption)
                                            have q311 : x11_2 < (l2.length : Int) := of_decide_eq_true (by first | (with_reducible assumption) | assumption)
                                            obtain ⟨ad311, A311_3, c311_3, e311, hx311_0, hx311_1, hx311_2, hx311_3, hl311_3, hi311_3⟩ := at_T39 HR2.out x11_2 p311 q311
                                            obtain rfl : ad295 = ad311 := (by injection e311)
                                            replace hx311_0 := (HB.out.cell (World.block_lt_of_cell? w _ hx311_0)).trans hx311_0
                                            replace hx311_1 := (HB.out.cell (World.block_lt_of_cell? w _ hx311_1)).trans hx311_1
                                            replace hx311_2 := (HB.out.cell (World.block_lt_of_cell? w _ hx311_2)).trans hx311_2
                                            replace hx311_3 := (HB.out.cell (World.block_lt_of_cell? w _ hx311_3)).trans hx311_3
                                            have HR311_3 := Aside0.mk hi311_3
                                            have HC311_3 := Aside0.mk hl311_3
                                            clear hi311_3 hl311_3
                                            replace p311 := eq_true p311
                                            replace q311 := eq_true q311
                                            go_wp2
                                            repeat (go_quiet (fail); try go_wp2)
                                            go_roundg k5
                                            case measure => have := HJ4.out; have := HK2.out; have := HJ20.out; have := HK4.out; have := HK5.out; omega
                                            case rel => exact ⟨((x13_5 == ((rd_T39 l2 x11_2).f0))), (wrap64 (x12_4 + 1)), (by first | rfl | (simp; done) | (simp [*]; done)), (by first | rfl | (simp; done) | (simp [*]; done)), H', ⟨by have := HJ4.out; have := HK2.out; have := HJ20.out; have := HK4.out; have := HK5.out; omega⟩, ⟨by (with_reducible repeat (first | apply Kd.S_alloc | apply Kd.S_drewN | apply Kd.S_drew)); exact HO_9.out⟩, ⟨by repeat (first | (with_reducible first | exact HB.out | apply below_alloc | apply pw_below_drewN | apply below_drew1) | exact HB.out)⟩⟩
                                          · rw [if_neg c57] at H
                                            exact absurd H (by simp)
                                        · rw [if_neg c56] at H
                                          exact absurd H (by simp)
                                      · replace c55 := Bool.eq_false_iff.mpr c55
                                        subst c55
                                        have H1 : (sennitlaw05_AlignUnique.l1 k5 l0 l1 l2 t276 t285 false x11_2 (wrap64 (x12_4 + 1))) = some r := by rw [if_neg (show ¬ (false = true) by decide)] at H; exact H
                                        clear H
                                        have H := H1
                                        clear H1
                                        have H' := Aside0.mk H
                                        clear H
                                        obtain ⟨Ao59, co59, eo59⟩ := Kd.S_slice HO_9.out
                                        subst eo59
                                        go_wp2
                                        repeat (go_quiet (fail); try go_wp2)
                                        go_roundg k5
                                        case measure => have := HJ4.out; have := HK2.out; have := HJ20.out; have := HK4.out; have := HK5.out; omega
                                        case rel => exact ⟨(false), (wrap64 (x12_4 + 1)), (by first | rfl | (simp; done) | (simp [*]; done)), (by first | rfl | (simp; done) | (simp [*]; done)), H', ⟨by have := HJ4.out; have := HK2.out; have := HJ20.out; have := HK4.out; have := HK5.out; omega⟩, ⟨by (with_reducible repeat (first | apply Kd.S_alloc | apply Kd.S_drewN | apply Kd.S_drew)); exact HO_9.out⟩, ⟨by repeat (first | (with_reducible first | exact HB.out | apply below_alloc | apply pw_below_drewN | apply below_drew1) | exact HB.out)⟩⟩
                              · rw [if_neg c28] at H
                                have c28b0 : decide (x12_4 < ((rd_T39 l2 x11_2).f1.f1)) = false := decide_eq_false c28
                                clear c28
                                have H' := Aside0.mk H
                                clear H
                                have p296 : 0 ≤ (x11_2 : Int) := of_decide_eq_true (by first | (with_reducible assumption) | assumption)
                                have q296 : x11_2 < (l2.length : Int) := of_decide_eq_true (by first | (with_reducible assumption) | assumption)
                                obtain ⟨ad296, A296_3, c296_3, e296, hx296_0, hx296_1, hx296_2, hx296_3, hl296_3, hi296_3⟩ := at_T39 HR2.out x11_2 p296 q296
                                obtain rfl : ad295 = ad296 := (by injection e296)
                                replace hx296_0 := (HB.out.cell (World.block_lt_of_cell? w _ hx296_0)).trans hx296_0
                                replace hx296_1 := (HB.out.cell (World.block_lt_of_cell? w _ hx296_1)).trans hx296_1
                                replace hx296_2 := (HB.out.cell (World.block_lt_of_cell? w _ hx296_2)).trans hx296_2
                                replace hx296_3 := (HB.out.cell (World.block_lt_of_cell? w _ hx296_3)).trans hx296_3
                                have HR296_3 := Aside0.mk hi296_3
                                have HC296_3 := Aside0.mk hl296_3
                                clear hi296_3 hl296_3
                                replace p296 := eq_true p296
                                replace q296 := eq_true q296
                                go_wp2
                                repeat (go_quiet (fail); try go_wp2)
                                go_roundg k4
                                case measure => have := HJ4.out; have := HK2.out; have := HJ20.out; have := HK4.out; omega
                                case rel => exact ⟨(x10_4), (wrap64 (x11_2 + 1)), (by first | rfl | (simp; done) | (simp [*]; done)), (by first | rfl | (simp; done) | (simp [*]; done)), H', ⟨by have := HJ4.out; have := HK2.out; have := HJ20.out; have := HK4.out; omega⟩, ⟨by (with_reducible repeat (first | apply Kd.S_alloc | apply Kd.S_drewN | apply Kd.S_drew)); exact HO_9.out⟩, ⟨by repeat (first | (with_reducible first | exact HB.out | apply below_alloc | apply pw_below_drewN | apply below_drew1) | exact HB.out)⟩⟩
                            · rw [if_neg c27] at H
                              exact absurd H (by simp)
                          · rw [if_neg c26] at H
                            exact absurd H (by simp)
                    · rw [if_neg c25] at H
                      exact absurd H (by simp)
                  · rw [if_neg c24] at H
                    exact absurd H (by simp)
                · replace c23 := Bool.eq_false_iff.mpr c23
                  subst c23
                  have H1 : (if t276 = true then ((sennitlaw05_cut.f kj20 l0 l1).bind fun t291 => ((sennitref05_Same.f kj20 l2 t291).bind fun t294 => (some (x10_2 == t294)))) else (some false)) = some r := by rw [if_neg (show ¬ (false = true) by decide)] at H; exact H
                  clear H
                  have H := H1
                  clear H1
                  by_cases c60 : t276 = true
                  · subst c60
                    have H1 : ((sennitlaw05_cut.f kj20 l0 l1).bind fun t291 => ((sennitref05_Same.f kj20 l2 t291).bind fun t294 => (some (x10_2 == t294)))) = some r := by rw [if_pos rfl] at H; exact H
                    clear H
                    have H := H1
                    clear H1
                    replace H := Option.bind_eq_some_iff.mp H
                    obtain ⟨t291, A610, H⟩ := H
                    replace H : ((sennitref05_Same.f kj20 l2 t291).bind fun t294 => (some (x10_2 == t294))) = some r := H
                    have A61 := Aside0.mk A610
                    clear A610
                    replace H := Option.bind_eq_some_iff.mp H
                    obtain ⟨t294, A620, H⟩ := H
                    replace H : (some (x10_2 == t294)) = some r := H
                    have A62 := Aside0.mk A620
                    clear A620
                    obtain rfl := Option.some.inj H
                    go_wp2_with (first | (go_at_call 19; (with_reducible refine (sennitlaw05_cut.calls kj20 _ _ l0 _ _ l1 t291 _ ?side1 ?side2 ?side3 ?side4 A61.out).mono ?_); (case side1 => repeat (first | exact (Kd.C_below HR0.out HB.out) | (with_reducible refine Kd.C_alloc ?_ _) | (with_reducible refine Kd.C_drewN ?_ _) | (with_reducible refine Kd.C_drew ?_))); (case side2 => exact HC0.out); (case side3 => repeat (first | exact (Kd.C_below HR1.out HB.out) | (with_reducible refine Kd.C_alloc ?_ _) | (with_reducible refine Kd.C_drewN ?_ _) | (with_reducible refine Kd.C_drew ?_))); (case side4 => exact HC1.out); rintro e w63 ⟨v292, rfl, ho0, hb⟩; have n0_ := Aside0.mk (Kd.S_below (by (with_reducible repeat (first | apply Kd.S_alloc | apply Kd.S_drewN | apply Kd.S_drew)); exact HO_9.out) hb); have n1_ := Aside0.mk (Kd.S_lower ho0 (below_size (by repeat (first | (with_reducible first | exact HB.out | apply below_alloc | apply pw_below_drewN | apply below_drew1) | exact HB.out)))); have n2_ := Aside0.mk (below_step (by repeat (first | (with_reducible first | exact HB.out | apply below_alloc | apply pw_below_drewN | apply below_drew1) | exact HB.out)) hb); clear HO_9; clear HB; have HO_9 := n0_; have HO293 := n1_; have HB := n2_; clear n0_ n1_ n2_; (try clear hb); (try clear hb2); (try clear hk); (try clear hi); (try clear ho0); obtain ⟨Ao64, co64, eo64⟩ := Kd.S_slice HO293.out; subst eo64) | (go_at_call 21; (with_reducible refine (sennitref05_Same.calls kj20 _ _ l2 _ _ t291 t294 _ ?side1 ?side2 ?side3 ?side4 A62.out).mono ?_); (case side1 => repeat (first | exact (Kd.C_below HR2.out HB.out) | (with_reducible refine Kd.C_alloc ?_ _) | (with_reducible refine Kd.C_drewN ?_ _) | (with_reducible refine Kd.C_drew ?_))); (case side2 => exact HC2.out); (case side3 => repeat (first | exact (Kd.S_reads' HO293.out).2.2 | (with_reducible refine Kd.C_alloc ?_ _) | (with_reducible refine Kd.C_drewN ?_ _) | (with_reducible refine Kd.C_drew ?_))); (case side4 => exact (Kd.S_reads' HO293.out).2.1); rintro e w' ⟨rfl, ⟨nd, rfl⟩⟩; (try first | exact ⟨rfl, _, World.drewN_drewN _ _ _⟩ | exact ⟨rfl, _, Eq.trans (World.drewN_drewN _ _ _) (congrArg (World.drewN _) (Nat.add_assoc _ _ _))⟩)))
                    repeat (go_quiet (first | (go_at_call 19; (with_reducible refine (sennitlaw05_cut.calls kj20 _ _ l0 _ _ l1 t291 _ ?side1 ?side2 ?side3 ?side4 A61.out).mono ?_); (case side1 => repeat (first | exact (Kd.C_below HR0.out HB.out) | (with_reducible refine Kd.C_alloc ?_ _) | (with_reducible refine Kd.C_drewN ?_ _) | (with_reducible refine Kd.C_drew ?_))); (case side2 => exact HC0.out); (case side3 => repeat (first | exact (Kd.C_below HR1.out HB.out) | (with_reducible refine Kd.C_alloc ?_ _) | (with_reducible refine Kd.C_drewN ?_ _) | (with_reducible refine Kd.C_drew ?_))); (case side4 => exact HC1.out); rintro e w63 ⟨v292, rfl, ho0, hb⟩; have n0_ := Aside0.mk (Kd.S_below (by (with_reducible repeat (first | apply Kd.S_alloc | apply Kd.S_drewN | apply Kd.S_drew)); exact HO_9.out) hb); have n1_ := Aside0.mk (Kd.S_lower ho0 (below_size (by repeat (first | (with_reducible first | exact HB.out | apply below_alloc | apply pw_below_drewN | apply below_drew1) | exact HB.out)))); have n2_ := Aside0.mk (below_step (by repeat (first | (with_reducible first | exact HB.out | apply below_alloc | apply pw_below_drewN | apply below_drew1) | exact HB.out)) hb); clear HO_9; clear HB; have HO_9 := n0_; have HO293 := n1_; have HB := n2_; clear n0_ n1_ n2_; (try clear hb); (try clear hb2); (try clear hk); (try clear hi); (try clear ho0); obtain ⟨Ao64, co64, eo64⟩ := Kd.S_slice HO293.out; subst eo64) | (go_at_call 21; (with_reducible refine (sennitref05_Same.calls kj20 _ _ l2 _ _ t291 t294 _ ?side1 ?side2 ?side3 ?side4 A62.out).mono ?_); (case side1 => repeat (first | exact (Kd.C_below HR2.out HB.out) | (with_reducible refine Kd.C_alloc ?_ _) | (with_reducible refine Kd.C_drewN ?_ _) | (with_reducible refine Kd.C_drew ?_))); (case side2 => exact HC2.out); (case side3 => repeat (first | exact (Kd.S_reads' HO293.out).2.2 | (with_reducible refine Kd.C_alloc ?_ _) | (with_reducible refine Kd.C_drewN ?_ _) | (with_reducible refine Kd.C_drew ?_))); (case side4 => exact (Kd.S_reads' HO293.out).2.1); rintro e w' ⟨rfl, ⟨nd, rfl⟩⟩; (try first | exact ⟨rfl, _, World.drewN_drewN _ _ _⟩ | exact ⟨rfl, _, Eq.trans (World.drewN_drewN _ _ _) (congrArg (World.drewN _) (Nat.add_assoc _ _ _))⟩))); try go_wp2_with (first | (go_at_call 19; (with_reducible refine (sennitlaw05_cut.calls kj20 _ _ l0 _ _ l1 t291 _ ?side1 ?side2 ?side3 ?side4 A61.out).mono ?_); (case side1 => repeat (first | exact (Kd.C_below HR0.out HB.out) | (with_reducible refine Kd.C_alloc ?_ _) | (with_reducible refine Kd.C_drewN ?_ _) | (with_reducible refine Kd.C_drew ?_))); (case side2 => exact HC0.out); (case side3 => repeat (first | exact (Kd.C_below HR1.out HB.out) | (with_reducible refine Kd.C_alloc ?_ _) | (with_reducible refine Kd.C_drewN ?_ _) | (with_reducible refine Kd.C_drew ?_))); (case side4 => exact HC1.out); rintro e w63 ⟨v292, rfl, ho0, hb⟩; have n0_ := Aside0.mk (Kd.S_below (by (with_reducible repeat (first | apply Kd.S_alloc | apply Kd.S_drewN | apply Kd.S_drew)); exact HO_9.out) hb); have n1_ := Aside0.mk (Kd.S_lower ho0 (below_size (by repeat (first | (with_reducible first | exact HB.out | apply below_alloc | apply pw_below_drewN | apply below_drew1) | exact HB.out)))); have n2_ := Aside0.mk (below_step (by repeat (first | (with_reducible first | exact HB.out | apply below_alloc | apply pw_below_drewN | apply below_drew1) | exact HB.out)) hb); clear HO_9; clear HB; have HO_9 := n0_; have HO293 := n1_; have HB := n2_; clear n0_ n1_ n2_; (try clear hb); (try clear hb2); (try clear hk); (try clear hi); (try clear ho0); obtain ⟨Ao64, co64, eo64⟩ := Kd.S_slice HO293.out; subst eo64) | (go_at_call 21; (with_reducible refine (sennitref05_Same.calls kj20 _ _ l2 _ _ t291 t294 _ ?side1 ?side2 ?side3 ?side4 A62.out).mono ?_); (case side1 => repeat (first | exact (Kd.C_below HR2.out HB.out) | (with_reducible refine Kd.C_alloc ?_ _) | (with_reducible refine Kd.C_drewN ?_ _) | (with_reducible refine Kd.C_drew ?_))); (case side2 => exact HC2.out); (case side3 => repeat (first | exact (Kd.S_reads' HO293.out).2.2 | (with_reducible refine Kd.C_alloc ?_ _) | (with_reducible refine Kd.C_drewN ?_ _) | (with_reducible refine Kd.C_drew ?_))); (case side4 => exact (Kd.S_reads' HO293.out).2.1); rintro e w' ⟨rfl, ⟨nd, rfl⟩⟩; (try first | exact ⟨rfl, _, World.drewN_drewN _ _ _⟩ | exact ⟨rfl, _, Eq.trans (World.drewN_drewN _ _ _) (congrArg (World.drewN _) (Nat.add_assoc _ _ _))⟩))))
                    go_ret
                    exact ⟨by first | rfl | (simp [errW_none, errW_some] <;> rfl) | (simp [*, errW_none, errW_some] <;> rfl), by repeat (first | (with_reducible first | exact HB.out | apply below_alloc | apply pw_below_drewN | apply below_drew1) | exact HB.out)⟩
                  · replace c60 := Bool.eq_false_iff.mpr c60
                    subst c60
                    have H1 : (some false) = some r := by rw [if_neg (show ¬ (false = true) by decide)] at H; exact H
                    clear H
                    have H := H1
                    clear H1
                    obtain rfl := Option.some.inj H
                    go_wp2
                    repeat (go_quiet (fail); try go_wp2)
                    go_ret
                    exact ⟨by first | rfl | (simp [errW_none, errW_some] <;> rfl) | (simp [*, errW_none, errW_some] <;> rfl), by repeat (first | (with_reducible first | exact HB.out | apply below_alloc | apply pw_below_drewN | apply below_drew1) | exact HB.out)⟩

end Go.Proofs.Ytnebadlakmlkkaa.M
namespace Go.Proofs.Ytnebadlakmlkkaa.Pure
open Go.RowKit Go.Proofs.Ytnebadlakmlkkaa.M Go.Proofs.Ytnebadlakmlkkaa.Hand Go.Proofs.YtnebadlakmlkkaaW.PrintWords Go.Proofs.YtnebadlakmlkkaaW.PrintLast Go.Proofs.YtnebadlakmlkkaaW.PrintMore
set_option linter.unusedVariables false
/-- The number that match i gives to place k. -/
def mm (M : List (List Int)) (i k : Nat) : Int := (M.getD i []).getD k 0
/-- What matches must be. -/
structure OkM (M : List (List Int)) (m : Nat) (sizes : List Int) : Prop where
  len : M.length = sizes.length
  pos : 1 ≤ M.length
  row : ∀ i < M.length, (M.getD i []).length = m
  low : ∀ i < M.length, ∀ k < m, -1 ≤ mm M i k
  high : ∀ i < M.length, ∀ k < m, mm M i k < sizes.getD i 0
  nat : ∀ i < M.length, 0 ≤ sizes.getD i 0
  inc : ∀ i < M.length, ∀ j k, j < k → k < m → 0 ≤ mm M i j → 0 ≤ mm M i k → mm M i j < mm M i k

theorem getD_mem {α : Type} (M : List α) (d : α) (i : Nat) (h : i < M.length) : M.getD i d ∈ M := by
  rw [List.getD_eq_getElem?_getD, List.getElem?_eq_getElem h]
  exact List.getElem_mem h
theorem mem_getD {α : Type} (M : List α) (d : α) (x : α) (h : x ∈ M) : ∃ i, i < M.length ∧ M.getD i d = x := by
  obtain ⟨i, hi, e⟩ := List.getElem_of_mem h
  exact ⟨i, hi, by rw [List.getD_eq_getElem?_getD, List.getElem?_eq_getElem hi, ← e]; rfl⟩
theorem ext_getD {α : Type} (d : α) (a b : List α) (hl : a.length = b.length) (h : ∀ i < a.length, a.getD i d = b.getD i d) : a = b := by
  refine List.ext_getElem hl fun i h1 h2 => ?_
  have := h i h1
  rwa [List.getD_eq_getElem?_getD, List.getD_eq_getElem?_getD, List.getElem?_eq_getElem h1, List.getElem?_eq_getElem h2] at this
theorem map_getD {α β : Type} (f : α → β) (d : α) (e : β) (l : List α) (i : Nat) (h : i < l.length) : (l.map f).getD i e = f (l.getD i d) := by
  rw [List.getD_eq_getElem?_getD, List.getD_eq_getElem?_getD, List.getElem?_map, List.getElem?_eq_getElem h]
  rfl
theorem stab_iff (M : List (List Int)) (k : Nat) : stabB M k = true ↔ ∀ i < M.length, 0 ≤ mm M i k := by
  simp only [stabB, List.all_eq_true, Bool.not_eq_true', decide_eq_false_iff_not]
  constructor
  · intro h i hi
    have := h _ (getD_mem M [] i hi)
    unfold mm
    omega
  · intro h l hl
    obtain ⟨i, hi, rfl⟩ := mem_getD M [] l hl
    have := h i hi
    unfold mm at this
    omega
theorem cont_iff (M : List (List Int)) (k : Nat) : contB M k = true ↔ ∀ i < M.length, 0 ≤ mm M i k ∧ mm M i k = mm M i (k - 1) + 1 := by
  simp only [contB, List.all_eq_true, Bool.and_eq_true, Bool.not_eq_true', decide_eq_false_iff_not, decide_eq_true_eq]
  constructor
  · intro h i hi
    have := h _ (getD_mem M [] i hi)
    unfold mm
    omega
  · intro h l hl
    obtain ⟨i, hi, rfl⟩ := mem_getD M [] l hl
    have := h i hi
    unfold mm at this
    omega
theorem atG_get (M : List (List Int)) (k : Nat) (more : Int) (i : Nat) (h : i < M.length) : (atG M k more).getD i 0 = mm M i k + more := by
  unfold atG mm
  rw [map_getD _ [] 0 M i h]
theorem spans_len (a b : List Int) (h : a.length = b.length) : (spans a b).length = a.length := by simp [spans, h]
theorem spans_get (a b : List Int) (i : Nat) (h : i < a.length) (h' : i < b.length) : (spans a b).getD i z36 = ⟨a.getD i 0, b.getD i 0⟩ := by
  unfold spans
  simp [List.getD_eq_getElem?_getD, List.getElem?_zipWith, List.getElem?_eq_getElem h, List.getElem?_eq_getElem h']
theorem some_iff (b b' : Int) (a a' : List Int) (h : a.length = a'.length) : someB b b' a a' = true ↔ (b < b' ∨ ∃ i, i < a.length ∧ a.getD i 0 < a'.getD i 0) := by
  simp only [someB, Bool.or_eq_true, decide_eq_true_eq, List.any_eq_true]
  refine or_congr Iff.rfl ⟨?_, ?_⟩
  · rintro ⟨p, hp, hlt⟩
    obtain ⟨i, hi, e⟩ := List.getElem_of_mem hp
    rw [List.length_zip] at hi
    refine ⟨i, by omega, ?_⟩
    rw [List.getElem_zip] at e
    subst e
    simp only [List.getD_eq_getElem?_getD, List.getElem?_eq_getElem (show i < a.length by omega), List.getElem?_eq_getElem (show i < a'.length by omega), Option.getD_some]
    exact hlt
  · rintro ⟨i, hi, hlt⟩
    simp only [List.getD_eq_getElem?_getD, List.getElem?_eq_getElem (show i < a.length by omega), List.getElem?_eq_getElem (show i < a'.length by omega), Option.getD_some] at hlt
    exact ⟨(a[i], a'[i]), by rw [← List.getElem_zip (h := by rw [List.length_zip]; omega)]; exact List.getElem_mem _, hlt⟩
def tos (c : S39) : List Int := c.f2.map (fun s => s.f1)
theorem tos_get (c : S39) (i : Nat) (h : i < c.f2.length) : (tos c).getD i 0 = (c.f2.getD i z36).f1 := map_getD _ z36 0 _ _ h
theorem tos_len (c : S39) : (tos c).length = c.f2.length := by simp [tos]

/-- A chunk that may follow where base place b, and sides' places a, are reached. -/
structure Ok1 (M : List (List Int)) (b : Int) (a : List Int) (c : S39) : Prop where
  hb : c.f1.f0 = b
  hlen : c.f2.length = a.length
  hf : ∀ i < a.length, (c.f2.getD i z36).f0 = a.getD i 0
  hle : b ≤ c.f1.f1
  hsl : ∀ i < a.length, a.getD i 0 ≤ (c.f2.getD i z36).f1
  hne : b < c.f1.f1 ∨ ∃ i, i < a.length ∧ a.getD i 0 < (c.f2.getD i z36).f1
  hst : c.f0 = true → ∀ i < a.length, (c.f2.getD i z36).f1 - a.getD i 0 = c.f1.f1 - b
  hk : ∀ k : Nat, b ≤ k → (k : Int) < c.f1.f1 → stabB M k = c.f0 ∧ (c.f0 = true → ∀ i < a.length, mm M i k = a.getD i 0 + k - b)
/-- A list of chunks that leads from there to the end. -/
def Fits (M : List (List Int)) (m : Nat) (sizes : List Int) : Int → List Int → Option Bool → List S39 → Prop
  | b, a, _, [] => b = m ∧ a = sizes
  | b, a, p, c :: t => Ok1 M b a c ∧ p ≠ some c.f0 ∧ Fits M m sizes c.f1.f1 (tos c) (some c.f0) t

theorem fits_end {M : List (List Int)} {m : Nat} {sizes : List Int} : ∀ (l : List S39) (b : Int) (a : List Int) (p : Option Bool), Fits M m sizes b a p l → b ≤ m ∧ a.length = sizes.length ∧ ∀ i < a.length, a.getD i 0 ≤ sizes.getD i 0
  | [], b, a, p, h => by
    obtain ⟨rfl, rfl⟩ := h
    exact ⟨Int.le_refl _, rfl, fun _ _ => Int.le_refl _⟩
  | c :: t, b, a, p, h => by
    obtain ⟨h1, _, h2⟩ := h
    obtain ⟨q1, q2, q3⟩ := fits_end t _ _ _ h2
    rw [tos_len, h1.hlen] at q2
    refine ⟨Int.le_trans h1.hle q1, q2, fun i hi => ?_⟩
    have := q3 i (by rw [tos_len, h1.hlen]; exact hi)
    rw [tos_get _ _ (by rw [h1.hlen]; exact hi)] at this
    exact Int.le_trans (h1.hsl i hi) this
/-- A stable chunk is not empty of base places. -/
theorem ok_base {M : List (List Int)} {b : Int} {a : List Int} {c : S39} (h : Ok1 M b a c) (hs : c.f0 = true) : b < c.f1.f1 := by
  rcases h.hne with h1 | ⟨i, hi, h1⟩
  · exact h1
  · have := h.hst hs i hi
    omega
/-- What stands at the first place of a list: from b on. -/
theorem head_stab {M : List (List Int)} {m : Nat} {sizes : List Int} {b : Nat} {a : List Int} {p : Option Bool} {l : List S39} (h : Fits M m sizes b a p l) (hp : p = some false) (hm : (b : Int) < m) :
    stabB M b = true ∧ ∀ i < a.length, mm M i b = a.getD i 0 := by
  match l, h with
  | [], h => obtain ⟨hb, _⟩ := h; omega
  | c :: t, ⟨h1, h2, h3⟩ =>
    have hc : c.f0 = true := by subst hp; cases hc : c.f0 <;> simp_all
    have hk := h1.hk b (Int.le_refl _) (ok_base h1 hc)
    refine ⟨hk.1.trans hc, fun i hi => ?_⟩
    have := hk.2 hc i hi
    omega
/-- Behind a stable chunk: the next place is not stable, or else some side goes on elsewhere. -/
theorem head_not {M : List (List Int)} {m : Nat} {sizes : List Int} {b : Nat} {a : List Int} {p : Option Bool} {l : List S39} (h : Fits M m sizes b a p l) (hp : p = some true) (hm : (b : Int) < m) (hs : stabB M b = true) :
    ¬ ∀ i < a.length, mm M i b = a.getD i 0 := by
  match l, h with
  | [], h => obtain ⟨hb, _⟩ := h; omega
  | c :: t, ⟨h1, h2, h3⟩ =>
    have hc : c.f0 = false := by subst hp; cases hc : c.f0 <;> simp_all
    intro hall
    by_cases hb : (b : Int) < c.f1.f1
    · have hk := h1.hk b (Int.le_refl _) hb
      rw [hc, hs] at hk
      exact absurd hk.1 (by decide)
    · have he : c.f1.f1 = b := by have := h1.hle; omega
      rw [he, hc] at h3
      have := head_stab h3 rfl hm
      rcases h1.hne with h4 | ⟨i, hi, h4⟩
      · omega
      · have h5 := this.2 i (by rw [tos_len, h1.hlen]; exact hi)
        rw [tos_get _ _ (by rw [h1.hlen]; exact hi), hall i hi] at h5
        omega
/-- THE COARSEST: there is one such list. -/
theorem fits_uniq {M : List (List Int)} {m : Nat} {sizes : List Int} : ∀ (l l' : List S39) (b : Nat) (a : List Int) (p p' : Option Bool), Fits M m sizes b a p l → Fits M m sizes b a p' l' → l = l'
  | [], [], _, _, _, _, _, _ => rfl
  | [], c :: t, b, a, p, p', h, h' => by
    obtain ⟨hb, rfl⟩ := h
    obtain ⟨h1, _, h2⟩ := h'
    obtain ⟨q1, q2, q3⟩ := fits_end t _ _ _ h2
    rcases h1.hne with h3 | ⟨i, hi, h3⟩
    · omega
    · have := q3 i (by rw [tos_len, h1.hlen]; exact hi)
      rw [tos_get _ _ (by rw [h1.hlen]; exact hi)] at this
      omega
  | c :: t, [], b, a, p, p', h', h => by
    obtain ⟨hb, rfl⟩ := h
    obtain ⟨h1, _, h2⟩ := h'
    obtain ⟨q1, q2, q3⟩ := fits_end t _ _ _ h2
    rcases h1.hne with h3 | ⟨i, hi, h3⟩
    · omega
    · have := q3 i (by rw [tos_len, h1.hlen]; exact hi)
      rw [tos_get _ _ (by rw [h1.hlen]; exact hi)] at this
      omega
  | c :: t, c' :: t', b, a, p, p', h, h' => by
    obtain ⟨h1, h2, h3⟩ := h
    obtain ⟨h1', h2', h3'⟩ := h'
    have e1 := (fits_end t _ _ _ h3).1
    have e1' := (fits_end t' _ _ _ h3').1
    obtain ⟨e, he⟩ : ∃ e : Nat, c.f1.f1 = e := ⟨c.f1.f1.toNat, by have := h1.hle; omega⟩
    obtain ⟨e', he'⟩ : ∃ e' : Nat, c'.f1.f1 = e' := ⟨c'.f1.f1.toNat, by have := h1'.hle; omega⟩
    -- one that is stable, and one that isn't
    have key : ∀ (c c' : S39) (t' : List S39) (e e' : Nat), Ok1 M b a c → Ok1 M b a c' → Fits M m sizes c'.f1.f1 (tos c') (some c'.f0) t' → c.f1.f1 = e → c'.f1.f1 = e' → e ≤ m → c.f0 = true → c'.f0 = false → False := by
      intro c c' t' e e' g1 g1' g3' he he' em hc hc'
      have hb := ok_base g1 hc
      have hk := g1.hk b (Int.le_refl _) hb
      by_cases hb' : (b : Int) < c'.f1.f1
      · have := (g1'.hk b (Int.le_refl _) hb').1
        rw [hc', hk.1, hc] at this
        exact absurd this (by decide)
      · have hee : c'.f1.f1 = b := by have := g1'.hle; omega
        rw [hee, hc'] at g3'
        have hh := head_stab g3' rfl (by omega)
        rcases g1'.hne with h4 | ⟨i, hi, h4⟩
        · omega
        · have h5 := hh.2 i (by rw [tos_len, g1'.hlen]; exact hi)
          rw [tos_get _ _ (by rw [g1'.hlen]; exact hi)] at h5
          have := hk.2 hc i hi
          omega
    have hflag : c.f0 = c'.f0 := by
      cases hc : c.f0 <;> cases hc' : c'.f0 <;> try rfl
      · exact (key c' c t e' e h1' h1 h3 he' he (by omega) hc' hc).elim
      · exact (key c c' t' e e' h1 h1' h3' he he' (by omega) hc hc').elim
    -- the shorter one of two
    have short : ∀ (c c' : S39) (t : List S39) (e e' : Nat), Ok1 M b a c → Ok1 M b a c' → Fits M m sizes c.f1.f1 (tos c) (some c.f0) t → c.f1.f1 = e → c'.f1.f1 = e' → e' ≤ m → c.f0 = c'.f0 → ¬ e < e' := by
      intro c c' t e e' g1 g1' g3 he he' em hcc hlt
      have hk := g1'.hk e (by have := g1.hle; omega) (by omega)
      rw [he] at g3
      cases hc : c.f0 with
      | true =>
        rw [hc] at g3
        refine head_not g3 rfl (by omega) (by rw [hk.1, ← hcc, hc]) fun i hi => ?_
        rw [tos_len] at hi
        rw [tos_get _ _ hi]
        rw [g1.hlen] at hi
        have q1 := hk.2 (by rw [← hcc, hc]) i hi
        have q2 := g1.hst hc i hi
        omega
      | false =>
        rw [hc] at g3
        have := (head_stab g3 rfl (by omega)).1
        rw [hk.1, ← hcc, hc] at this
        exact absurd this (by decide)
    have hee : e = e' := by
      have q1 := short c c' t e e' h1 h1' h3 he he' (by omega) hflag
      have q2 := short c' c t' e' e h1' h1 h3' he' he (by omega) hflag.symm
      omega
    subst hee
    have hl : c.f2.length = c'.f2.length := h1.hlen.trans h1'.hlen.symm
    have hto : ∀ i < a.length, (c.f2.getD i z36).f1 = (c'.f2.getD i z36).f1 := by
      intro i hi
      cases hc : c.f0 with
      | true =>
        have q1 := h1.hst hc i hi
        have q2 := h1'.hst (by rw [← hflag, hc]) i hi
        omega
      | false =>
        have hc' : c'.f0 = false := by rw [← hflag, hc]
        rw [he, hc] at h3
        rw [he', hc'] at h3'
        have i1 : i < (tos c).length := by rw [tos_len, h1.hlen]; exact hi
        have i2 : i < (tos c').length := by rw [tos_len, h1'.hlen]; exact hi
        rw [← tos_get _ _ (by rw [h1.hlen]; exact hi), ← tos_get _ _ (by rw [h1'.hlen]; exact hi)]
        by_cases hem : (e : Int) < m
        · rw [← (head_stab h3 rfl hem).2 i i1, ← (head_stab h3' rfl hem).2 i i2]
        · have last : ∀ (u : List S39) (x : S39), Fits M m sizes e (tos x) (some false) u → tos x = sizes := by
            intro u x hu
            match u, hu with
            | [], hu => exact hu.2
            | y :: u, ⟨g1, g2, g3⟩ =>
              have hy : y.f0 = true := by cases hy : y.f0 <;> simp_all
              have := ok_base g1 hy
              have := (fits_end u _ _ _ g3).1
              omega
          rw [last t c h3, last t' c' h3']
    have hcc : c = c' := by
      obtain ⟨s, ⟨x, y⟩, f⟩ := c
      obtain ⟨s', ⟨x', y'⟩, f'⟩ := c'
      simp only [S39.mk.injEq, S36.mk.injEq]
      refine ⟨hflag, ⟨h1.hb.trans h1'.hb.symm, he.trans he'.symm⟩, ext_getD z36 _ _ hl fun i hi => ?_⟩
      have hi' : i < a.length := by rw [← h1.hlen]; exact hi
      have q1 := (h1.hf i hi').trans (h1'.hf i hi').symm
      have q2 := hto i hi'
      generalize ha : List.getD f i z36 = u at q1 q2
      generalize hb : List.getD f' i z36 = v at q1 q2
      obtain ⟨u0, u1⟩ := u
      obtain ⟨v0, v1⟩ := v
      simp_all
    subst hcc
    rw [he] at h3 h3'
    rw [fits_uniq t t' e _ _ _ h3 h3']

/-- What leads from the beginning to where b, and a, are reached. -/
def Reach (M : List (List Int)) (m : Nat) (sizes : List Int) (out : List S39) (b : Int) (a : List Int) (p : Option Bool) : Prop :=
  ∀ l, Fits M m sizes b a p l → Fits M m sizes 0 (List.replicate sizes.length 0) none (out ++ l)
theorem reach_snoc {M : List (List Int)} {m : Nat} {sizes : List Int} {out : List S39} {b : Int} {a : List Int} {p : Option Bool} (h : Reach M m sizes out b a p) (c : S39) (hc : Ok1 M b a c) (hp : p ≠ some c.f0) :
    Reach M m sizes (out ++ [c]) c.f1.f1 (tos c) (some c.f0) := fun l hl => by
  rw [List.append_assoc]
  exact h _ ⟨hc, hp, hl⟩
theorem tos_spans (st : Bool) (x : S36) (a b : List Int) (h : a.length = b.length) : tos ⟨st, x, spans a b⟩ = b := by
  refine ext_getD 0 _ _ (by rw [tos_len]; show (spans a b).length = _; rw [spans_len _ _ h, h]) fun i hi => ?_
  rw [tos_get _ _ (by simpa [tos] using hi)]
  have h1 : i < a.length := by rw [tos_len] at hi; have : (spans a b).length = a.length := spans_len _ _ h; exact this ▸ hi
  show ((spans a b).getD i z36).f1 = _
  rw [spans_get a b i h1 (by omega)]

/-- A cut up to b' and a' (none ahead of where it begins): a chunk, or nothing. -/
theorem cut_step {M : List (List Int)} {m : Nat} {sizes : List Int} {s : CutSt} {b : Nat} {p : Option Bool} (hs : s.base = b) (h : Reach M m sizes s.out b s.at_ p) (st : Bool) (b' : Nat) (a' : List Int) (hl : s.at_.length = a'.length) (hb : b ≤ b')
    (ha : ∀ i < s.at_.length, s.at_.getD i 0 ≤ a'.getD i 0) (hp : p ≠ some st) (hst : st = true → ∀ i < s.at_.length, a'.getD i 0 - s.at_.getD i 0 = b' - b)
    (hk : ∀ k, b ≤ k → k < b' → stabB M k = st ∧ (st = true → ∀ i < s.at_.length, mm M i k = s.at_.getD i 0 + k - b)) :
    (Reach M m sizes (toG s st b' a').out b' a' (some st) ∧ someB s.base b' s.at_ a' = true) ∨ (b' = b ∧ a' = s.at_ ∧ (toG s st b' a').out = s.out) := by
  by_cases hq : someB s.base b' s.at_ a' = true
  · left
    refine ⟨?_, hq⟩
    simp only [toG]
    rw [if_pos hq]
    have hg : ∀ i < s.at_.length, (spans s.at_ a').getD i z36 = ⟨s.at_.getD i 0, a'.getD i 0⟩ := fun i hi => spans_get _ _ i hi (by omega)
    have hok : Ok1 M b s.at_ ⟨st, ⟨s.base, b'⟩, spans s.at_ a'⟩ := by
      refine ⟨(show ((s.base : Nat) : Int) = b by rw [hs]), spans_len _ _ hl, fun i hi => ?_, by show (b : Int) ≤ (b' : Int); omega, fun i hi => ?_, ?_, fun hc i hi => ?_, fun k h1 h2 => ?_⟩
      · show ((spans s.at_ a').getD i z36).f0 = _
        rw [hg i hi]
      · show _ ≤ ((spans s.at_ a').getD i z36).f1
        rw [hg i hi]
        exact ha i hi
      · rw [some_iff _ _ _ _ hl, hs] at hq
        rcases hq with hq | ⟨i, hi, hq⟩
        · exact .inl hq
        · refine .inr ⟨i, hi, ?_⟩
          show _ < ((spans s.at_ a').getD i z36).f1
          rw [hg i hi]
          exact hq
      · show ((spans s.at_ a').getD i z36).f1 - _ = _
        rw [hg i hi]
        exact hst hc i hi
      · exact hk k (by omega) (by have : (k : Int) < b' := h2; omega)
    have := reach_snoc h ⟨st, ⟨s.base, b'⟩, spans s.at_ a'⟩ hok hp
    rw [tos_spans _ _ _ _ hl] at this
    exact this
  · right
    have hn := mt (some_iff s.base b' s.at_ a' hl).2 hq
    have h1 : ¬ ((s.base : Int) < b') := fun h => hn (.inl h)
    refine ⟨by omega, ext_getD 0 _ _ hl.symm fun i hi => ?_, by simp only [toG]; rw [if_neg hq]⟩
    have h2 : ¬ (s.at_.getD i 0 < a'.getD i 0) := fun h => hn (.inr ⟨i, by omega, h⟩)
    have := ha i (by omega)
    omega

theorem run_le (M : List (List Int)) : ∀ d e, e ≤ runF M d e ∧ runF M d e ≤ e + d
  | 0, e => ⟨Nat.le_refl _, Nat.le_refl _⟩
  | d + 1, e => by
    simp only [runF]
    split
    · have := run_le M d (e + 1)
      omega
    · omega
theorem runF_in (M : List (List Int)) : ∀ d e j, e ≤ j → j < runF M d e → contB M j = true
  | 0, e, j, h1, h2 => by simp only [runF] at h2; omega
  | d + 1, e, j, h1, h2 => by
    simp only [runF] at h2
    split at h2
    · rename_i hc
      rcases Nat.lt_or_ge e j with h | h
      · exact runF_in M d (e + 1) j h h2
      · obtain rfl : j = e := by omega
        exact hc
    · omega
theorem run_out (M : List (List Int)) : ∀ d e, runF M d e < e + d → contB M (runF M d e) = false
  | 0, e, h => by simp only [runF] at h; omega
  | d + 1, e, h => by
    simp only [runF] at h ⊢
    split
    · rename_i hc
      rw [if_pos hc] at h
      exact run_out M d (e + 1) (by omega)
    · rename_i hc
      exact Bool.eq_false_iff.2 hc
theorem run_val (M : List (List Int)) (k e : Nat) (h : ∀ j, k + 1 ≤ j → j < e → contB M j = true) (hs : stabB M k = true) : ∀ d, k + d < e → stabB M (k + d) = true ∧ ∀ i < M.length, mm M i (k + d) = mm M i k + d
  | 0, _ => ⟨hs, fun i _ => by simp⟩
  | d + 1, hd => by
    have ih := run_val M k e h hs d (by omega)
    have hc := (cont_iff M (k + (d + 1))).1 (h _ (by omega) hd)
    refine ⟨(stab_iff M _).2 fun i hi => (hc i hi).1, fun i hi => ?_⟩
    have h1 := (hc i hi).2
    rw [show k + (d + 1) - 1 = k + d from by omega, ih.2 i hi] at h1
    rw [h1]
    omega

structure Inv (M : List (List Int)) (m : Nat) (sizes : List Int) (k : Nat) (s : CutSt) : Prop where
  km : k ≤ m
  len : s.at_.length = M.length
  ex : ∃ (b : Nat) (p : Option Bool), s.base = b ∧ b ≤ k ∧ Reach M m sizes s.out b s.at_ p ∧ (∀ j, b ≤ j → j < k → stabB M j = false) ∧
    ((b = 0 ∧ s.at_ = List.replicate sizes.length 0 ∧ p = none) ∨ (p = some true ∧ 0 < b ∧ stabB M (b - 1) = true ∧ s.at_ = atG M (b - 1) 1 ∧ (b < m → contB M b = false)))
theorem inv_skip {M : List (List Int)} {m : Nat} {sizes : List Int} {k : Nat} {s : CutSt} (h : Inv M m sizes k s) (hk : k < m) (hs : ¬ stabB M k = true) : Inv M m sizes (k + 1) s := by
  obtain ⟨h1, h2, b, p, q1, q2, q3, q4, q5⟩ := h
  refine ⟨hk, h2, b, p, q1, by omega, q3, fun j hj hj2 => ?_, q5⟩
  rcases Nat.lt_or_ge j k with h | h
  · exact q4 j hj h
  · obtain rfl : j = k := by omega
    exact Bool.eq_false_iff.2 hs
theorem rep_get (n : Nat) (i : Nat) : (List.replicate n (0 : Int)).getD i 0 = 0 := by
  rw [List.getD_eq_getElem?_getD, List.getElem?_replicate]
  split <;> rfl
theorem toG_base (s : CutSt) (st : Bool) (b : Nat) (a : List Int) : (toG s st b a).base = b := rfl
theorem toG_at (s : CutSt) (st : Bool) (b : Nat) (a : List Int) : (toG s st b a).at_ = a := rfl
theorem inv_run {M : List (List Int)} {m : Nat} {sizes : List Int} (ok : OkM M m sizes) {k : Nat} {s : CutSt} (h : Inv M m sizes k s) (hk : k < m) (hs : stabB M k = true) :
    Inv M m sizes (endG M m k) (toG (toG s false k (atG M k 0)) true (endG M m k) (atG M (endG M m k - 1) 1)) := by
  obtain ⟨h1, h2, b, p, q1, q2, q3, q4, q5⟩ := h
  have hlen : s.at_.length = (atG M k 0).length := by rw [h2, atG_len]
  have hsk := (stab_iff M k).1 hs
  have hat : ∀ i < s.at_.length, s.at_.getD i 0 ≤ (atG M k 0).getD i 0 := by
    intro i hi
    rw [atG_get _ _ _ _ (by omega)]
    have hsi := hsk i (by omega)
    rcases q5 with ⟨rfl, e, _⟩ | ⟨_, hb, hst, e, _⟩
    · rw [e, rep_get]
      omega
    · rw [e, atG_get _ _ _ _ (by omega)]
      have := ok.inc i (by omega) (b - 1) k (by omega) hk ((stab_iff M _).1 hst i (by omega)) hsi
      omega
  have c1 := cut_step q1 q3 false k (atG M k 0) hlen q2 hat (by rcases q5 with ⟨_, _, rfl⟩ | ⟨rfl, _⟩ <;> simp) (by simp) (fun j h1 h2 => ⟨q4 j h1 h2, by simp⟩)
  obtain ⟨p1, hr1, hp1⟩ : ∃ p1, Reach M m sizes (toG s false k (atG M k 0)).out k (atG M k 0) p1 ∧ p1 ≠ some true := by
    rcases c1 with ⟨c1, _⟩ | ⟨rfl, e2, e3⟩
    · exact ⟨_, c1, by simp⟩
    · refine ⟨p, by rw [e3, e2]; exact q3, ?_⟩
      rcases q5 with ⟨_, _, rfl⟩ | ⟨rfl, hb, hst, e, hc⟩
      · simp
      · exfalso
        have hc := hc hk
        rw [(cont_iff M k).2 fun i hi => ⟨hsk i hi, ?_⟩] at hc
        · exact absurd hc (by decide)
        · have := congrArg (fun l => List.getD l i 0) e2
          replace this : (atG M k 0).getD i 0 = s.at_.getD i 0 := this
          rw [e, atG_get _ _ _ _ hi, atG_get _ _ _ _ hi] at this
          omega
  have hrl := run_le M (m - (k + 1)) (k + 1)
  have hri := runF_in M (m - (k + 1)) (k + 1)
  have hro := run_out M (m - (k + 1)) (k + 1)
  have hev : endG M m k = runF M (m - (k + 1)) (k + 1) := rfl
  rw [← hev] at hrl hri hro
  generalize endG M m k = e at hrl hri hro
  have hval := run_val M k e hri hs
  have hlast := hval (e - 1 - k) (by omega)
  rw [show k + (e - 1 - k) = e - 1 from by omega] at hlast
  have c2 := cut_step (s := toG s false k (atG M k 0)) (b := k) (p := p1) rfl hr1 true e (atG M (e - 1) 1) (by rw [toG_at, atG_len, atG_len]) (by omega)
    (fun i hi => by
      rw [toG_at, atG_len] at hi
      rw [toG_at, atG_get _ _ _ _ hi, atG_get _ _ _ _ hi, hlast.2 i hi]
      omega) hp1
    (fun _ i hi => by
      rw [toG_at, atG_len] at hi
      rw [toG_at, atG_get _ _ _ _ hi, atG_get _ _ _ _ hi, hlast.2 i hi]
      omega)
    (fun j h1 h2 => by
      have := hval (j - k) (by omega)
      rw [show k + (j - k) = j from by omega] at this
      refine ⟨this.1, fun _ i hi => ?_⟩
      rw [toG_at, atG_len] at hi
      rw [toG_at, atG_get _ _ _ _ hi, this.2 i hi]
      omega)
  refine ⟨by omega, by rw [toG_at, atG_len], e, some true, rfl, Nat.le_refl _, ?_, fun j h1 h2 => by omega, .inr ⟨rfl, by omega, hlast.1, rfl, fun h => hro (by omega)⟩⟩
  rcases c2 with ⟨c2, _⟩ | ⟨e1, _, _⟩
  · exact c2
  · omega
theorem inv_loop {M : List (List Int)} {m : Nat} {sizes : List Int} (ok : OkM M m sizes) : ∀ (d k : Nat) (s : CutSt), Inv M m sizes k s → m < k + d → Inv M m sizes m (loopA M m d k s)
  | 0, k, s, h, hd => by have := h.km; omega
  | d + 1, k, s, h, hd => by
    simp only [loopA]
    split
    · rename_i hk
      split
      · rename_i hs
        have hrl := run_le M (m - (k + 1)) (k + 1)
        exact inv_loop ok d _ _ (inv_run ok h hk hs) (by unfold endG; omega)
      · rename_i hs
        exact inv_loop ok d _ _ (inv_skip h hk hs) (by omega)
    · have := h.km
      obtain rfl : k = m := by omega
      exact h
/-- What the chunks of matches are. -/
theorem align_fits {M : List (List Int)} {m : Nat} {sizes : List Int} (ok : OkM M m sizes) : Fits M m sizes 0 (List.replicate sizes.length 0) none (alignG M m sizes) := by
  have h0 : Inv M m sizes 0 ⟨0, List.replicate sizes.length 0, []⟩ := ⟨Nat.zero_le _, by simp [ok.len], 0, none, rfl, Nat.le_refl _, fun l hl => hl, fun j _ h => by omega, .inl ⟨rfl, rfl, rfl⟩⟩
  have h := inv_loop ok (m + 1) 0 _ h0 (by omega)
  unfold alignG
  generalize loopA M m (m + 1) 0 ⟨0, List.replicate sizes.length 0, []⟩ = s at h
  obtain ⟨h1, h2, b, p, q1, q2, q3, q4, q5⟩ := h
  have hl : s.at_.length = sizes.length := by rw [h2, ok.len]
  have c := cut_step q1 q3 false m sizes hl q2
    (fun i hi => by
      rcases q5 with ⟨rfl, e, _⟩ | ⟨_, hb, hst, e, _⟩
      · rw [e, rep_get]
        exact ok.nat i (by omega)
      · rw [e, atG_get _ _ _ _ (by omega)]
        have := ok.high i (by omega) (b - 1) (by omega)
        omega)
    (by rcases q5 with ⟨_, _, rfl⟩ | ⟨rfl, _⟩ <;> simp) (by simp) (fun j h1 h2 => ⟨q4 j h1 h2, by simp⟩)
  rcases c with ⟨c, _⟩ | ⟨e1, e2, e3⟩
  · have := c [] ⟨rfl, rfl⟩
    rwa [List.append_nil] at this
  · rw [e3]
    have := q3 [] ⟨by rw [e1], e2.symm⟩
    rwa [List.append_nil] at this
end Go.Proofs.Ytnebadlakmlkkaa.Pure
namespace Go.Proofs.Ytnebadlakmlkkaa.Pure
open Go.RowKit Go.Proofs.Ytnebadlakmlkkaa.M Go.Proofs.Ytnebadlakmlkkaa.Hand Go.Proofs.YtnebadlakmlkkaaW.PrintWords Go.Proofs.YtnebadlakmlkkaaW.PrintLast Go.Proofs.YtnebadlakmlkkaaW.PrintMore
set_option linter.unusedVariables false

theorem rd_at (l : List Int) (i : Nat) : rd l (i : Int) = l.getD i 0 := by simp [rd]
theorem w1 {i : Nat} (h : i ≤ 1000000) : wrap64 ((i : Int) + 1) = ((i + 1 : Nat) : Int) := by unfold wrap64; omega
/-- What holds with some fuel holds with more. -/
theorem leO_le {α : Type} {f : Nat → Option α} (h : ∀ k, LeO (f k) (f (k + 1))) {k k' : Nat} (hk : k ≤ k') {r : α} (hr : f k = some r) : f k' = some r := by
  obtain ⟨d, rfl⟩ := Nat.exists_eq_add_of_le hk
  induction d with
  | zero => exact hr
  | succ d ih => exact h (k + d) r (ih (by omega))

theorem ints_l0 (l : List Int) (hl : l.length ≤ 1000000) (hv : ∀ x ∈ l, 0 ≤ x ∧ x ≤ 1000000) : ∀ d i k, i + d = l.length → d < k → sennitref03_Ints.l0 k l (l.take i) (i : Int) = some l := by
  intro d
  induction d with
  | zero =>
    intro i k hi hk
    obtain ⟨k, rfl⟩ : ∃ q, k = q + 1 := ⟨k - 1, by omega⟩
    rw [sennitref03_Ints.l0, if_neg (by omega), List.take_of_length_le (by omega)]
  | succ d ih =>
    intro i k hi hk
    have hlt : i < l.length := by omega
    obtain ⟨k, rfl⟩ : ∃ q, k = q + 1 := ⟨k - 1, by omega⟩
    have hx := hv l[i] (List.getElem_mem hlt)
    have hw : wrap64 (rd l (i : Int)) = l[i] := by
      rw [rd_at, List.getD_eq_getElem?_getD, List.getElem?_eq_getElem hlt]
      show wrap64 l[i] = l[i]
      unfold wrap64; omega
    rw [sennitref03_Ints.l0, if_pos (by omega), if_pos (by omega), if_pos (by simp; omega), hw, w1 (by omega), ← take_snoc l i _ (List.getElem?_eq_getElem hlt)]
    exact ih (i + 1) k (by omega) (by omega)
theorem ints_f (l : List Int) (hl : l.length ≤ 1000000) (hv : ∀ x ∈ l, 0 ≤ x ∧ x ≤ 1000000) (k : Nat) (hk : l.length < k) : sennitref03_Ints.f k l = some l := ints_l0 l hl hv l.length 0 k (by omega) hk
theorem lists_l0 (l : List (List Int)) (hl : l.length ≤ 1000) (hv : ∀ y ∈ l, y.length ≤ 1000 ∧ ∀ x ∈ y, 0 ≤ x ∧ x ≤ 1000000) : ∀ d i k, i + d = l.length → d + 1001 < k → sennitref05_Lists.l0 k l (l.take i) (i : Int) = some l := by
  intro d
  induction d with
  | zero =>
    intro i k hi hk
    obtain ⟨k, rfl⟩ : ∃ q, k = q + 1 := ⟨k - 1, by omega⟩
    rw [sennitref05_Lists.l0, if_neg (by omega), List.take_of_length_le (by omega)]
  | succ d ih =>
    intro i k hi hk
    have hlt : i < l.length := by omega
    obtain ⟨k, rfl⟩ : ∃ q, k = q + 1 := ⟨k - 1, by omega⟩
    have hx := hv l[i] (List.getElem_mem hlt)
    have hr : rd_L9 l (i : Int) = l[i] := by simp [rd_L9, List.getD_eq_getElem?_getD, hlt]
    rw [sennitref05_Lists.l0, if_pos (by omega), if_pos (by omega), hr, ints_f _ (by omega) hx.2 _ (by omega), Option.bind_some, if_pos (by simp; omega), w1 (by omega), ← take_snoc l i _ (List.getElem?_eq_getElem hlt)]
    exact ih (i + 1) k (by omega) (by omega)
theorem lists_f (l : List (List Int)) (hl : l.length ≤ 1000) (hv : ∀ y ∈ l, y.length ≤ 1000 ∧ ∀ x ∈ y, 0 ≤ x ∧ x ≤ 1000000) (k : Nat) (hk : 2002 ≤ k) : sennitref05_Lists.f k l = some l := lists_l0 l hl hv l.length 0 k (by omega) (by omega)

/-- Few, of lists as they may come in. -/
theorem few_l0 (b : List Int) (l : List (List Int)) (hb : b.length ≤ 9223372036854775807) (hl : l.length ≤ 9223372036854775807) (hx : ∀ y ∈ l, y.length ≤ 9223372036854775807) : ∀ d i k, i + d = 7 → i ≤ l.length → 2 * d + 2 < k → (∀ q < i, (l.getD q []).length ≤ 30) →
    ∃ r, sennitref05_Few.l0 k b l (i : Int) = some r ∧ (r = true → b.length ≤ 30 ∧ 1 ≤ l.length ∧ l.length ≤ 6 ∧ ∀ y ∈ l, y.length ≤ 30) := by
  have fin : ∀ i k, 2 ≤ k → (i = l.length ∨ i = 7) → (∀ q < i, (l.getD q []).length ≤ 30) → ∃ r, sennitref05_Few.j1 k b l (i : Int) false = some r ∧ (r = true → b.length ≤ 30 ∧ 1 ≤ l.length ∧ l.length ≤ 6 ∧ ∀ y ∈ l, y.length ≤ 30) := by
    intro i k hk hi hq
    obtain ⟨k, rfl⟩ : ∃ q, k = q + 1 := ⟨k - 1, by omega⟩
    rw [sennitref05_Few.j1, if_neg (by decide)]
    by_cases h1 : (b.length : Int) ≤ 30
    · rw [if_pos h1]
      by_cases h2 : (l.length : Int) ≥ 1
      · rw [if_pos h2]
        refine ⟨_, rfl, fun h => ?_⟩
        have h3 := of_decide_eq_true h
        refine ⟨by omega, by omega, by omega, fun y hy => ?_⟩
        obtain ⟨q, hq1, rfl⟩ := mem_getD l [] y hy
        exact hq q (by omega)
      · rw [if_neg h2]; exact ⟨_, rfl, by simp⟩
    · rw [if_neg h1]; exact ⟨_, rfl, by simp⟩
  intro d
  induction d with
  | zero =>
    intro i k hi hil hk hq
    obtain ⟨k, rfl⟩ : ∃ q, k = q + 1 := ⟨k - 1, by omega⟩
    rw [sennitref05_Few.l0]
    have h7 : decide ((i : Int) < 7) = false := decide_eq_false (by omega)
    rw [h7]
    have := fin i k (by omega) (.inr (by omega)) hq
    split <;> exact this
  | succ d ih =>
    intro i k hi hil hk hq
    obtain ⟨k, rfl⟩ : ∃ q, k = q + 1 := ⟨k - 1, by omega⟩
    rw [sennitref05_Few.l0]
    by_cases hlt : i < l.length
    · have h7 : decide ((i : Int) < 7) = true := decide_eq_true (by omega)
      have hr : rd_L9 l (i : Int) = l.getD i [] := by simp [rd_L9]
      rw [if_pos (by omega), h7]
      obtain ⟨k, rfl⟩ : ∃ q, k = q + 1 := ⟨k - 1, by omega⟩
      rw [sennitref05_Few.j1, if_pos rfl, if_pos (by omega), if_pos (by omega), hr]
      by_cases h30 : ((l.getD i []).length : Int) > 30
      · rw [if_pos h30]; exact ⟨_, rfl, by simp⟩
      · rw [if_neg h30, w1 (by omega)]
        refine ih (i + 1) k (by omega) (by omega) (by omega) fun q hqi => ?_
        rcases Nat.lt_or_ge q i with h | h
        · exact hq q h
        · obtain rfl : q = i := by omega
          omega
    · rw [if_neg (by omega)]
      exact fin i k (by omega) (.inl (by omega)) hq
theorem few_f (b : List Int) (l : List (List Int)) (hb : b.length ≤ 9223372036854775807) (hl : l.length ≤ 9223372036854775807) (hx : ∀ y ∈ l, y.length ≤ 9223372036854775807) (k : Nat) (hk : 17 ≤ k) :
    ∃ r, sennitref05_Few.f k b l = some r ∧ (r = true → b.length ≤ 30 ∧ 1 ≤ l.length ∧ l.length ≤ 6 ∧ ∀ y ∈ l, y.length ≤ 30) := few_l0 b l hb hl hx 7 0 k (by omega) (by omega) (by omega) (fun q h => by omega)

/-! The table of the longest common parts: its length alone is wanted. -/
theorem wsm {z : Int} (h0 : 0 ≤ z) (h : z ≤ 1000000000) : wrap64 z = z := by unfold wrap64; omega
theorem tab_facts (n m i : Nat) (hi : i < n) (hn : n ≤ 100) (hm : m ≤ 100) : ∃ p q L : Nat, (n + 1) * (m + 1) = L ∧ q = p + (m + 1) ∧ q + (m + 1) ≤ L ∧ L ≤ 20000 ∧ ((i : Int) + 1) * ((m + 1 : Nat) : Int) = (q : Int) ∧ (i : Int) * ((m + 1 : Nat) : Int) = (p : Int) := by
  refine ⟨i * (m + 1), (i + 1) * (m + 1), (n + 1) * (m + 1), rfl, ?_, ?_, ?_, ?_, ?_⟩
  · rw [Nat.add_mul, Nat.one_mul]
  · have h : (i + 1) * (m + 1) ≤ n * (m + 1) := Nat.mul_le_mul_right _ hi
    rw [Nat.add_mul n, Nat.one_mul]
    exact Nat.add_le_add_right h _
  · exact Nat.le_trans (Nat.mul_le_mul (show n + 1 ≤ 101 by omega) (show m + 1 ≤ 101 by omega)) (by decide)
  · rw [Int.natCast_mul]; rfl
  · rw [Int.natCast_mul]
/-- The places of a table, as Go reckons them. -/
theorem tab_wraps (p q d m i : Nat) (hq : q = p + (m + 1)) (hL : q + (m + 1) ≤ 20000) (hd : d ≤ 100) (hi : i ≤ 100) (e1 : ((i : Int) + 1) * ((m + 1 : Nat) : Int) = (q : Int)) (e2 : (i : Int) * ((m + 1 : Nat) : Int) = (p : Int)) :
    wrap64 (((i : Int) + 1)) = (i : Int) + 1 ∧ wrap64 (((i : Int) + 1) * ((m + 1 : Nat) : Int)) = (q : Int) ∧ wrap64 ((i : Int) * ((m + 1 : Nat) : Int)) = (p : Int) ∧ wrap64 ((q : Int) + (d : Int)) = ((q + d : Nat) : Int) ∧ wrap64 ((p : Int) + (d : Int)) = ((p + d : Nat) : Int) ∧
      wrap64 (((p + d : Nat) : Int) + 1) = ((p + d + 1 : Nat) : Int) ∧ wrap64 (((q + d : Nat) : Int) + 1) = ((q + d + 1 : Nat) : Int) ∧ wrap64 ((d : Int) + 1) = ((d + 1 : Nat) : Int) := by
  rw [e1, e2]
  clear e1 e2
  refine ⟨?_, ?_, ?_, ?_, ?_, ?_, ?_, ?_⟩ <;> exact wsm (by omega) (by omega)
theorem wsub {d : Nat} (h : d ≤ 1000) : wrap64 ((d : Int) - 1) = (d : Int) - 1 := by unfold wrap64; omega
set_option maxHeartbeats 2000000 in
theorem rest_l1 (a b : List Int) (ha : a.length ≤ 100) (hb : b.length ≤ 100) (i : Nat) (hi : i < a.length) (k : Nat) : ∀ d (t : List Int), d ≤ b.length → t.length = (a.length + 1) * (b.length + 1) →
    ∃ t', t'.length = (a.length + 1) * (b.length + 1) ∧ sennitref03_rest.l1 (k + d + 1) a b ((b.length + 1 : Nat) : Int) t (i : Int) ((d : Int) - 1) = sennitref03_rest.l0 k a b ((b.length + 1 : Nat) : Int) t' ((i : Int) - 1) := by
  obtain ⟨p, q, L, hL, hq, hqL, hL2, e1, e2⟩ := tab_facts a.length b.length i hi ha hb
  rw [hL]
  clear hL
  intro d
  induction d with
  | zero =>
    intro t _ ht
    refine ⟨t, ht, ?_⟩
    rw [sennitref03_rest.l1, if_neg (by omega), wsub (by omega)]
  | succ d ih =>
    intro t hd ht
    have c0 : (d : Int) ≥ 0 := by omega
    have c1 : (0 : Int) ≤ ((q + d : Nat) : Int) := by omega
    have c2 : ((q + d : Nat) : Int) < (t.length : Int) := by omega
    have c3 : (0 : Int) ≤ ((p + d + 1 : Nat) : Int) := by omega
    have c4 : ((p + d + 1 : Nat) : Int) < (t.length : Int) := by omega
    have c5 : (0 : Int) ≤ (i : Int) := by omega
    have c6 : (i : Int) < (a.length : Int) := by omega
    have c7 : (0 : Int) ≤ (d : Int) := by omega
    have c8 : (d : Int) < (b.length : Int) := by omega
    have c9 : (0 : Int) ≤ ((q + d + 1 : Nat) : Int) := by omega
    have c10 : ((q + d + 1 : Nat) : Int) < (t.length : Int) := by omega
    have c11 : (0 : Int) ≤ ((p + d : Nat) : Int) := by omega
    have c12 : ((p + d : Nat) : Int) < (t.length : Int) := by omega
    have y0 : (((d + 1 : Nat) : Int) - 1) = (d : Int) := by omega
    have hdb : d ≤ b.length := by omega
    obtain ⟨x1, x2, x3, y1, y2, y3, y4, _⟩ := tab_wraps p q d b.length i hq (by omega) (by omega) (by omega) e1 e2
    rw [show k + (d + 1) + 1 = (k + d + 1) + 1 from rfl, sennitref03_rest.l1, y0, x1, x2, x3, y1, y2, y3, y4, wsub (Nat.le_trans hdb (Nat.le_trans hb (by decide)))]
    clear x1 x2 x3 y1 y2 y3 y4 e1 e2 y0
    rw [if_pos c0, if_pos c1, if_pos c2, if_pos c3, if_pos c4, if_pos c5, if_pos c6, if_pos c7, if_pos c8]
    split
    · try rw [if_pos c9, if_pos c10, if_pos c11, if_pos c12]
      exact ih _ hdb (by rw [List.length_set]; exact ht)
    · try rw [if_pos c11, if_pos c12]
      exact ih _ hdb (by rw [List.length_set]; exact ht)
theorem rest_l0 (a b : List Int) (ha : a.length ≤ 100) (hb : b.length ≤ 100) : ∀ (i : Nat) (k : Nat) (t : List Int), i ≤ a.length → (b.length + 3) * i + 1 ≤ k → t.length = (a.length + 1) * (b.length + 1) →
    ∃ t', t'.length = (a.length + 1) * (b.length + 1) ∧ sennitref03_rest.l0 k a b ((b.length + 1 : Nat) : Int) t ((i : Int) - 1) = some t' := by
  intro i
  induction i with
  | zero =>
    intro k t _ hk ht
    obtain ⟨k, rfl⟩ : ∃ q, k = q + 1 := ⟨k - 1, by omega⟩
    exact ⟨t, ht, by rw [sennitref03_rest.l0, if_neg (by omega)]⟩
  | succ i ih =>
    intro k t hi hk ht
    rw [Nat.mul_succ] at hk
    obtain ⟨k, rfl⟩ : ∃ q, k = (q + b.length + 1) + 1 := ⟨k - b.length - 2, by omega⟩
    have hw : wrap64 ((b.length : Int) - 1) = (b.length : Int) - 1 := by unfold wrap64; omega
    rw [sennitref03_rest.l0, if_pos (by omega), show (((i + 1 : Nat) : Int) - 1) = (i : Int) by omega, hw]
    obtain ⟨t1, h1, h2⟩ := rest_l1 a b ha hb i hi k b.length t (Nat.le_refl _) ht
    rw [h2]
    exact ih k t1 (by omega) (by omega) h1
theorem rest_f (a b : List Int) (ha : a.length ≤ 100) (hb : b.length ≤ 100) (k : Nat) (hk : 20000 ≤ k) : ∃ t, t.length = (a.length + 1) * (b.length + 1) ∧ sennitref03_rest.f k a b = some t := by
  have hp4 : (a.length + 1) * (b.length + 1) ≤ 101 * 101 := Nat.mul_le_mul (by omega) (by omega)
  have hp5 : (b.length + 3) * a.length ≤ 103 * 100 := Nat.mul_le_mul (by omega) ha
  have x1 : wrap64 ((a.length : Int) + 1) = ((a.length + 1 : Nat) : Int) := w1 (by omega)
  have x2 : wrap64 ((b.length : Int) + 1) = ((b.length + 1 : Nat) : Int) := w1 (by omega)
  have x3 : wrap64 (((a.length + 1 : Nat) : Int) * ((b.length + 1 : Nat) : Int)) = (((a.length + 1) * (b.length + 1) : Nat) : Int) := by
    rw [← Int.natCast_mul]; unfold wrap64; omega
  have x4 : wrap64 ((a.length : Int) - 1) = (a.length : Int) - 1 := by unfold wrap64; omega
  unfold sennitref03_rest.f
  rw [x1, x2, x3, x4, if_pos (by omega), Int.toNat_natCast, if_pos (by omega)]
  exact rest_l0 a b ha hb a.length k _ (Nat.le_refl _) (by omega) (by simp)

/-- A match of two lists, as far as it goes. -/
structure MInv (a b : List Int) (out : List Int) (i j : Nat) : Prop where
  len : out.length = i
  ia : i ≤ a.length
  jb : j ≤ b.length
  val : ∀ q < i, out.getD q 0 = -1 ∨ (0 ≤ out.getD q 0 ∧ out.getD q 0 < j ∧ a.getD q 0 = b.getD (out.getD q 0).toNat 0)
  inc : ∀ p q, p < q → q < i → 0 ≤ out.getD p 0 → 0 ≤ out.getD q 0 → out.getD p 0 < out.getD q 0
theorem getD_snoc (out : List Int) (x : Int) (q : Nat) : (out ++ [x]).getD q 0 = if q < out.length then out.getD q 0 else if q = out.length then x else 0 := by
  simp only [List.getD_eq_getElem?_getD]
  split
  · rename_i h; rw [List.getElem?_append_left h]
  · rename_i h
    split
    · rename_i h2; rw [h2, List.getElem?_append_right (Nat.le_refl _), Nat.sub_self]; rfl
    · rename_i h2; rw [List.getElem?_eq_none (by simp; omega)]; rfl
theorem MInv.none {a b out : List Int} {i j : Nat} (h : MInv a b out i j) (hi : i < a.length) : MInv a b (out ++ [-1]) (i + 1) j := by
  have hl := h.len
  refine ⟨by simp [hl], hi, h.jb, fun q hq => ?_, fun p q hpq hq h1 h2 => ?_⟩
  · rw [getD_snoc]
    split
    · exact h.val q (by omega)
    · rw [if_pos (by omega)]; exact .inl rfl
  · rw [getD_snoc] at h1 h2 ⊢
    rw [getD_snoc]
    by_cases hq2 : q < out.length
    · rw [if_pos hq2] at h2 ⊢
      rw [if_pos (by omega)] at h1 ⊢
      exact h.inc p q hpq (by omega) h1 h2
    · rw [if_neg hq2, if_pos (by omega)] at h2
      omega
theorem MInv.some {a b out : List Int} {i j : Nat} (h : MInv a b out i j) (hi : i < a.length) (hj : j < b.length) (he : a.getD i 0 = b.getD j 0) : MInv a b (out ++ [(j : Int)]) (i + 1) (j + 1) := by
  have hl := h.len
  refine ⟨by simp [hl], hi, hj, fun q hq => ?_, fun p q hpq hq h1 h2 => ?_⟩
  · rw [getD_snoc]
    split
    · rcases h.val q (by omega) with h1 | ⟨h1, h2, h3⟩
      · exact .inl h1
      · exact .inr ⟨h1, by omega, h3⟩
    · rw [if_pos (by omega)]
      obtain rfl : q = i := by omega
      exact .inr ⟨by omega, by omega, by rw [Int.toNat_natCast]; exact he⟩
  · rw [getD_snoc] at h1 h2 ⊢
    rw [getD_snoc]
    by_cases hq2 : q < out.length
    · rw [if_pos hq2] at h2 ⊢
      rw [if_pos (by omega)] at h1 ⊢
      exact h.inc p q hpq (by omega) h1 h2
    · rw [if_neg hq2, if_pos (by omega)]
      rw [if_pos (by omega)] at h1 ⊢
      rcases h.val p (by omega) with h3 | ⟨h3, h4, _⟩
      · omega
      · exact h4
theorem MInv.more {a b out : List Int} {i j j' : Nat} (h : MInv a b out i j) (hj : j ≤ j') (hb : j' ≤ b.length) : MInv a b out i j' :=
  ⟨h.len, h.ia, hb, fun q hq => by rcases h.val q hq with h1 | ⟨h1, h2, h3⟩
                                   · exact .inl h1
                                   · exact .inr ⟨h1, by omega, h3⟩, h.inc⟩
set_option maxHeartbeats 2000000 in
theorem match_l (a b : List Int) (ha : a.length ≤ 100) (hb : b.length ≤ 100) (t : List Int) (ht0 : t.length = (a.length + 1) * (b.length + 1)) : ∀ k,
    (∀ i j out, MInv a b out i j → 2 * (a.length - i) + (b.length - j) + 1 ≤ k → ∃ out', sennitref03_Match.l0 k a b t ((b.length + 1 : Nat) : Int) out (j : Int) (i : Int) = some out' ∧ MInv a b out' a.length b.length) ∧
    (∀ i j out, MInv a b out i j → i < a.length → 2 * (a.length - i) + (b.length - j) ≤ k → ∃ out', sennitref03_Match.l1 k a b t ((b.length + 1 : Nat) : Int) out (j : Int) (i : Int) (-1) = some out' ∧ MInv a b out' a.length b.length) := by
  intro k
  induction k with
  | zero => exact ⟨fun i j out h hk => by omega, fun i j out h hi hk => by omega⟩
  | succ k ih =>
    refine ⟨fun i j out h hk => ?_, fun i j out h hi hk => ?_⟩
    · rw [sennitref03_Match.l0]
      by_cases hi : i < a.length
      · rw [if_pos (by omega)]
        exact ih.2 i j out h hi (by omega)
      · rw [if_neg (by omega)]
        obtain rfl : i = a.length := by have := h.ia; omega
        exact ⟨out, rfl, h.more h.jb (Nat.le_refl _)⟩
    · have hlen := h.len
      obtain ⟨p, q, L, hL, hq, hqL, hL2, e1, e2⟩ := tab_facts a.length b.length i hi ha hb
      have ht := ht0
      rw [hL] at ht
      clear ht0 hL
      have hjb := h.jb
      have ho : out.length < 17592186044416 := by omega
      have none_ : ∃ out', sennitref03_Match.l0 k a b t ((b.length + 1 : Nat) : Int) (out ++ [-1]) (j : Int) ((i + 1 : Nat) : Int) = some out' ∧ MInv a b out' a.length b.length := ih.1 (i + 1) j _ (h.none hi) (by omega)
      by_cases hj : j < b.length
      · have some_ : a.getD i 0 = b.getD j 0 → ∃ out', sennitref03_Match.l0 k a b t ((b.length + 1 : Nat) : Int) (out ++ [(j : Int)]) ((j + 1 : Nat) : Int) ((i + 1 : Nat) : Int) = some out' ∧ MInv a b out' a.length b.length := fun he => ih.1 (i + 1) (j + 1) _ (h.some hi hj he) (by omega)
        have more_ : ∃ out', sennitref03_Match.l1 k a b t ((b.length + 1 : Nat) : Int) out ((j + 1 : Nat) : Int) (i : Int) (-1) = some out' ∧ MInv a b out' a.length b.length := ih.2 i (j + 1) out (h.more (by omega) hj) hi (by omega)
        have c1 : (j : Int) < (b.length : Int) := by omega
        have c2 : (0 : Int) ≤ (i : Int) := by omega
        have c3 : (i : Int) < (a.length : Int) := by omega
        have c4 : (0 : Int) ≤ (j : Int) := by omega
        have c5 : (0 : Int) ≤ ((q + j : Nat) : Int) := by omega
        have c6 : ((q + j : Nat) : Int) < (t.length : Int) := by omega
        have c7 : (0 : Int) ≤ ((p + j + 1 : Nat) : Int) := by omega
        have c8 : ((p + j + 1 : Nat) : Int) < (t.length : Int) := by omega
        have y6 : ((i : Int) + 1) = ((i + 1 : Nat) : Int) := by omega
        obtain ⟨x1, x2, x3, y1, y2, y3, y4, y5⟩ := tab_wraps p q j b.length i hq (by omega) (by omega) (by omega) e1 e2
        rw [sennitref03_Match.l1, rd_at, rd_at, x1, x2, x3, y1, y2, y3, y5, y6]
        clear x1 x2 x3 y1 y2 y3 y4 y5 e1 e2
        rw [if_pos c1, if_pos c2, if_pos c3, if_pos c4]
        by_cases he : a.getD i 0 = b.getD j 0
        · rw [if_pos he, if_pos ho]
          exact some_ he
        · rw [if_neg he, if_pos c5, if_pos c6, if_pos c7, if_pos c8]
          split
          · exact more_
          · try rw [if_pos ho]
            exact none_
      · have c1 : ¬ ((j : Int) < (b.length : Int)) := by omega
        rw [sennitref03_Match.l1, if_neg c1, if_pos ho, w1 (by omega)]
        exact none_
def matchF (a b : List Int) : List Int := (sennitref03_Match.f 21000 a b).getD []
theorem match_f (a b : List Int) (ha : a.length ≤ 100) (hb : b.length ≤ 100) : MInv a b (matchF a b) a.length b.length ∧ ∀ k, 21000 ≤ k → sennitref03_Match.f k a b = some (matchF a b) := by
  obtain ⟨t, ht, hr⟩ := rest_f a b ha hb 21000 (by omega)
  obtain ⟨out', h1, h2⟩ := (match_l a b ha hb t ht 21000).1 0 0 [] ⟨rfl, Nat.zero_le _, Nat.zero_le _, fun q h => by omega, fun p q _ h => by omega⟩ (by omega)
  have x2 : wrap64 ((b.length : Int) + 1) = ((b.length + 1 : Nat) : Int) := w1 (by omega)
  have e : sennitref03_Match.f 21000 a b = some out' := by
    unfold sennitref03_Match.f
    rw [hr, Option.bind_some, x2]
    exact h1
  have e2 : matchF a b = out' := by unfold matchF; rw [e]; rfl
  rw [e2]
  exact ⟨h2, fun k hk => leO_le (fun k => sennitref03_Match.mono a b k) hk e⟩
/-- The matches of a base with sides. -/
def matchesF (a : List Int) (l : List (List Int)) : List (List Int) := l.map (matchF a)
def sizesF (l : List (List Int)) : List Int := l.map fun y => (y.length : Int)
theorem matches_l0 (a : List Int) (l : List (List Int)) (ha : a.length ≤ 100) (hl : l.length ≤ 1000) (hx : ∀ y ∈ l, y.length ≤ 100) : ∀ d i k, i + d = l.length → 21001 + d < k → sennitref05_Matches.l0 k a l (sizesF (l.take i)) (matchesF a (l.take i)) (i : Int) = some (sizesF l, matchesF a l) := by
  intro d
  induction d with
  | zero =>
    intro i k hi hk
    obtain ⟨k, rfl⟩ : ∃ q, k = q + 1 := ⟨k - 1, by omega⟩
    rw [sennitref05_Matches.l0, if_neg (by omega), List.take_of_length_le (by omega)]
  | succ d ih =>
    intro i k hi hk
    have hlt : i < l.length := by omega
    obtain ⟨k, rfl⟩ : ∃ q, k = q + 1 := ⟨k - 1, by omega⟩
    have hr : rd_L1 l (i : Int) = l[i] := by simp [rd_L1, List.getD_eq_getElem?_getD, hlt]
    have hih := ih (i + 1) k (by omega) (by omega)
    rw [take_snoc l i _ (List.getElem?_eq_getElem hlt)] at hih
    unfold sizesF matchesF at hih ⊢
    rw [List.map_append, List.map_append] at hih
    rw [sennitref05_Matches.l0, if_pos (by omega), if_pos (by omega), hr, if_pos (by simp; omega), (match_f a l[i] ha (hx _ (List.getElem_mem hlt))).2 k (by omega), Option.bind_some, if_pos (by simp; omega), w1 (by omega)]
    exact hih
theorem matches_f (a : List Int) (l : List (List Int)) (ha : a.length ≤ 100) (hl : l.length ≤ 1000) (hx : ∀ y ∈ l, y.length ≤ 100) (k : Nat) (hk : 23000 ≤ k) : sennitref05_Matches.f k a l = some (sizesF l, matchesF a l) := matches_l0 a l ha hl hx l.length 0 k (by omega) (by omega)
end Go.Proofs.Ytnebadlakmlkkaa.Pure
namespace Go.Proofs.Ytnebadlakmlkkaa.Pure
open Go.RowKit Go.Proofs.Ytnebadlakmlkkaa.M Go.Proofs.Ytnebadlakmlkkaa.Hand Go.Proofs.YtnebadlakmlkkaaW.PrintWords Go.Proofs.YtnebadlakmlkkaaW.PrintLast Go.Proofs.YtnebadlakmlkkaaW.PrintMore
set_option linter.unusedVariables false

/-- A match of m places to n. -/
structure MOk (l : List Int) (n : Int) : Prop where
  n0 : 0 ≤ n
  low : ∀ q < l.length, -1 ≤ l.getD q 0
  high : ∀ q < l.length, l.getD q 0 < n
  inc : ∀ p q, p < q → q < l.length → 0 ≤ l.getD p 0 → 0 ≤ l.getD q 0 → l.getD p 0 < l.getD q 0
theorem mayA_l0 (l : List Int) (n : Int) (h : MOk l n) (hl : l.length ≤ 1000000) : ∀ d i k last, i + d = l.length → d < k → -1 ≤ last → (last = -1 ∨ ∃ p, p < i ∧ l.getD p 0 = last) → (∀ p < i, l.getD p 0 ≤ last) →
    align_may.l0 k l (l.length : Int) n last l (l.length : Int) (i : Int) = some true := by
  intro d
  induction d with
  | zero =>
    intro i k last hi hk _ _ _
    obtain ⟨k, rfl⟩ : ∃ q, k = q + 1 := ⟨k - 1, by omega⟩
    rw [align_may.l0, if_neg (by omega), if_pos rfl, decide_eq_true h.n0]
  | succ d ih =>
    intro i k last hi hk h1 h2 h3
    obtain ⟨k, rfl⟩ : ∃ q, k = q + 1 := ⟨k - 1, by omega⟩
    have hlt : i < l.length := by omega
    have a1 := h.low i hlt
    have a2 := h.high i hlt
    rw [align_may.l0, if_pos (by omega), if_pos (by omega), if_pos (by omega), rd_at, if_neg (by omega), if_neg (by omega), w1 (by omega)]
    by_cases hx : l.getD i 0 ≥ 0
    · have hlast : last < l.getD i 0 := by
        rcases h2 with h2 | ⟨p, hp, h2⟩
        · omega
        · by_cases h0 : 0 ≤ last
          · have := h.inc p i hp hlt (by omega) hx
            omega
          · omega
      rw [if_pos hx, if_neg (by omega)]
      have hm : mx last (l.getD i 0) = l.getD i 0 := by unfold mx; rw [if_pos hlast]
      rw [hm]
      refine ih (i + 1) k _ (by omega) (by omega) (by omega) (.inr ⟨i, by omega, rfl⟩) fun p hp => ?_
      rcases Nat.lt_or_ge p i with h4 | h4
      · have := h3 p h4; omega
      · obtain rfl : p = i := by omega
        exact Int.le_refl _
    · rw [if_neg hx]
      have hm : mx last (l.getD i 0) = last := by unfold mx; rw [if_neg (by omega)]
      rw [hm]
      refine ih (i + 1) k _ (by omega) (by omega) h1 (by rcases h2 with h2 | ⟨p, hp, h2⟩; exact .inl h2; exact .inr ⟨p, by omega, h2⟩) fun p hp => ?_
      rcases Nat.lt_or_ge p i with h4 | h4
      · exact h3 p h4
      · obtain rfl : p = i := by omega
        omega
theorem mayA_f (l : List Int) (n : Int) (h : MOk l n) (hl : l.length ≤ 1000000) (k : Nat) (hk : l.length < k) : align_may.f k l (l.length : Int) n = some true := mayA_l0 l n h hl l.length 0 k (-1) (by omega) hk (by omega) (.inl rfl) (fun p hp => by omega)
theorem MInv.ok {a b out : List Int} (h : MInv a b out a.length b.length) : MOk out (b.length : Int) := by
  have hl := h.len
  refine ⟨by omega, fun q hq => ?_, fun q hq => ?_, fun p q hpq hq h1 h2 => h.inc p q hpq (by omega) h1 h2⟩
  · rcases h.val q (by omega) with h1 | ⟨h1, _, _⟩ <;> omega
  · rcases h.val q (by omega) with h1 | ⟨_, h1, _⟩ <;> omega

/-- Lists as Few lets them in. -/
structure Small5 (a : List Int) (l : List (List Int)) : Prop where
  a30 : a.length ≤ 30
  l1 : 1 ≤ l.length
  l7 : l.length ≤ 7
  y30 : ∀ y ∈ l, y.length ≤ 30
theorem matchesF_len (a : List Int) (l : List (List Int)) : (matchesF a l).length = l.length := by simp [matchesF]
theorem sizesF_len (l : List (List Int)) : (sizesF l).length = l.length := by simp [sizesF]
theorem matchesF_at (a : List Int) (l : List (List Int)) (i : Nat) (h : i < l.length) : (matchesF a l).getD i [] = matchF a (l.getD i []) := by unfold matchesF; exact map_getD _ [] [] l i h
theorem sizesF_at (l : List (List Int)) (i : Nat) (h : i < l.length) : (sizesF l).getD i 0 = ((l.getD i []).length : Int) := by unfold sizesF; exact map_getD _ [] 0 l i h
theorem Small5.inv {a : List Int} {l : List (List Int)} (h : Small5 a l) (i : Nat) (hi : i < l.length) : MInv a (l.getD i []) (matchF a (l.getD i [])) a.length (l.getD i []).length :=
  (match_f a _ (by have := h.a30; omega) (by have := h.y30 _ (getD_mem l [] i hi); omega)).1
/-- The matches are as they must be. -/
theorem Small5.okM {a : List Int} {l : List (List Int)} (h : Small5 a l) : OkM (matchesF a l) a.length (sizesF l) := by
  refine ⟨by rw [matchesF_len, sizesF_len], by rw [matchesF_len]; exact h.l1, fun i hi => ?_, fun i hi k hk => ?_, fun i hi k hk => ?_, fun i hi => ?_, fun i hi j k hjk hk h1 h2 => ?_⟩
  all_goals rw [matchesF_len] at hi
  · rw [matchesF_at _ _ _ hi]; exact (h.inv i hi).len
  · unfold mm
    rw [matchesF_at _ _ _ hi]
    exact (h.inv i hi).ok.low k (by rw [(h.inv i hi).len]; exact hk)
  · unfold mm
    rw [matchesF_at _ _ _ hi, sizesF_at _ _ hi]
    exact (h.inv i hi).ok.high k (by rw [(h.inv i hi).len]; exact hk)
  · rw [sizesF_at _ _ hi]; omega
  · unfold mm at h1 h2 ⊢
    rw [matchesF_at _ _ _ hi] at h1 h2 ⊢
    exact (h.inv i hi).ok.inc j k hjk (by rw [(h.inv i hi).len]; exact hk) h1 h2
theorem Small5.okAl {a : List Int} {l : List (List Int)} (h : Small5 a l) : okAl (a.length : Int) (sizesF l) (matchesF a l) = true := by
  have h1 := h.a30
  have h2 := h.l1
  have h3 := h.l7
  simp only [M.okAl, Bool.and_eq_true, decide_eq_true_eq, List.all_eq_true, List.mem_range]
  refine ⟨⟨⟨by omega, by omega, by rw [matchesF_len]; exact h2, by rw [matchesF_len]; omega, by rw [matchesF_len, sizesF_len]⟩, fun y hy => ?_⟩, fun i hi => ?_⟩
  · obtain ⟨i, hi, rfl⟩ := mem_getD _ [] y hy
    rw [matchesF_len] at hi
    rw [matchesF_at _ _ _ hi]
    have hv := h.inv i hi
    refine ⟨by rw [hv.len], fun x hx => ?_⟩
    obtain ⟨q, hq, rfl⟩ := mem_getD _ 0 x hx
    have b1 := hv.ok.low q hq
    have b2 := hv.ok.high q hq
    have b3 := h.y30 _ (getD_mem l [] i hi)
    omega
  · rw [matchesF_len] at hi
    rw [matchesF_at _ _ _ hi, sizesF_at _ _ hi]
    have hv := h.inv i hi
    have := mayA_f _ _ hv.ok (by rw [hv.len]; omega) 3000 (by rw [hv.len]; omega)
    rwa [hv.len] at this
def cutF (a : List Int) (l : List (List Int)) : List S39 := alignG (matchesF a l) a.length (sizesF l)
theorem byte_ok {l : List Int} (h : ∀ x ∈ l, (Lit.int .u8 x).wf = true) : ∀ x ∈ l, 0 ≤ x ∧ x ≤ 1000000 := fun x hx => by
  have := h x hx
  simp [Lit.wf, IntKind.min, IntKind.max, IntKind.signed, IntKind.bits] at this
  omega
structure Bytes5 (a : List Int) (l : List (List Int)) : Prop where
  a : ∀ x ∈ a, 0 ≤ x ∧ x ≤ 1000000
  l : ∀ y ∈ l, ∀ x ∈ y, 0 ≤ x ∧ x ≤ 1000000
theorem cut_f {a : List Int} {l : List (List Int)} (h : Small5 a l) (hb : Bytes5 a l) (k : Nat) (hk : 25000 ≤ k) : sennitlaw05_cut.f k a l = some (cutF a l) := by
  have h1 := h.a30
  have h2 := h.l1
  have h3 := h.l7
  unfold sennitlaw05_cut.f
  rw [ints_f a (by omega) hb.a k (by omega), Option.bind_some, lists_f l (by omega) (fun y hy => ⟨by have := h.y30 y hy; omega, hb.l y hy⟩) k (by omega), Option.bind_some,
    matches_f a l (by omega) (by omega) (fun y hy => by have := h.y30 y hy; omega) k (by omega), Option.bind_some]
  have hne : matchesF a l ≠ [] := by intro e; have := congrArg List.length e; rw [matchesF_len] at this; simp at this; rw [this] at h2; simp at h2
  have e : align_Align.f k (a.length : Int) (sizesF l) (matchesF a l) = some (alignG (matchesF a l) a.length (sizesF l), 0) := by
    unfold align_Align.f
    rw [if_neg hne, if_pos h.okAl, Int.toNat_natCast]
  rw [e]
  rfl
theorem awake05 (k : Nat) (hk : 10 ≤ k) : sennitlaw05_awake.f k = some true := by
  have e1 : okAl 3 [3] [[-1, 0, 1]] = true := by decide +kernel
  have e2 : alignG [[-1, 0, 1]] (3 : Int).toNat [3] = [⟨false, ⟨0, 1⟩, [⟨0, 0⟩]⟩, ⟨true, ⟨1, 3⟩, [⟨0, 2⟩]⟩, ⟨false, ⟨3, 3⟩, [⟨2, 3⟩]⟩] := rfl
  unfold sennitlaw05_awake.f align_Align.f
  rw [if_neg (by simp), if_pos e1, e2, if_pos rfl]
  rfl
end Go.Proofs.Ytnebadlakmlkkaa.Pure
namespace Go.Proofs.Ytnebadlakmlkkaa.Pure
open Go.RowKit Go.Proofs.Ytnebadlakmlkkaa.M Go.Proofs.Ytnebadlakmlkkaa.Hand Go.Proofs.YtnebadlakmlkkaaW.PrintWords Go.Proofs.YtnebadlakmlkkaaW.PrintLast Go.Proofs.YtnebadlakmlkkaaW.PrintMore
set_option linter.unusedVariables false

/-- A chunk that may follow where b, and a, are reached: its spans alone. -/
structure Ok0 (b : Int) (a : List Int) (c : S39) : Prop where
  hb : c.f1.f0 = b
  hlen : c.f2.length = a.length
  hf : ∀ i < a.length, (c.f2.getD i z36).f0 = a.getD i 0
  hle : b ≤ c.f1.f1
  hsl : ∀ i < a.length, a.getD i 0 ≤ (c.f2.getD i z36).f1
  hne : b < c.f1.f1 ∨ ∃ i, i < a.length ∧ a.getD i 0 < (c.f2.getD i z36).f1
  hst : c.f0 = true → ∀ i < a.length, (c.f2.getD i z36).f1 - a.getD i 0 = c.f1.f1 - b
def Cov (m : Nat) (sizes : List Int) : Int → List Int → Option Bool → List S39 → Prop
  | b, a, _, [] => b = m ∧ a = sizes
  | b, a, p, c :: t => Ok0 b a c ∧ p ≠ some c.f0 ∧ Cov m sizes c.f1.f1 (tos c) (some c.f0) t
theorem fits_cov {M : List (List Int)} {m : Nat} {sizes : List Int} : ∀ (l : List S39) (b : Int) (a : List Int) (p : Option Bool), Fits M m sizes b a p l → Cov m sizes b a p l
  | [], _, _, _, h => h
  | c :: t, b, a, p, ⟨h1, h2, h3⟩ => ⟨⟨h1.hb, h1.hlen, h1.hf, h1.hle, h1.hsl, h1.hne, h1.hst⟩, h2, fits_cov t _ _ _ h3⟩
/-- What comes in fits into an int. -/
def In64 (l : List S39) : Prop := ∀ c ∈ l, c.f1.f1 ≤ 9223372036854775807 ∧ ∀ s ∈ c.f2, s.f1 ≤ 9223372036854775807
theorem wdiff {x y : Int} (h0 : 0 ≤ x) (h1 : x ≤ y) (h2 : y ≤ 9223372036854775807) : wrap64 (y - x) = y - x := by unfold wrap64; omega
theorem rd36 (l : List S36) (i : Nat) : rd_T36 l (i : Int) = l.getD i z36 := by simp [rd_T36]
theorem rd39 (l : List S39) (i : Nat) : rd_T39 l (i : Int) = l.getD i z39 := by simp [rd_T39]
def someS (b1 b2 : Int) (f2 : List S36) : Bool := decide (b1 < b2) || f2.any fun s => decide (s.f0 < s.f1)
theorem empty_l0 (s : Bool) (b1 b2 : Int) (f2 : List S36) (hl : f2.length ≤ 1000000) : ∀ d i k, i + d = f2.length → d < k → sennitref05_Empty.l0 k (decide (b1 < b2) || (f2.take i).any fun s => decide (s.f0 < s.f1)) (i : Int) s b1 b2 f2 = some (!(someS b1 b2 f2)) := by
  intro d
  induction d with
  | zero =>
    intro i k hi hk
    obtain ⟨k, rfl⟩ : ∃ q, k = q + 1 := ⟨k - 1, by omega⟩
    rw [sennitref05_Empty.l0, if_neg (by omega), List.take_of_length_le (by omega)]
    rfl
  | succ d ih =>
    intro i k hi hk
    obtain ⟨k, rfl⟩ : ∃ q, k = q + 1 := ⟨k - 1, by omega⟩
    have hlt : i < f2.length := by omega
    have hih := ih (i + 1) k (by omega) (by omega)
    rw [take_snoc f2 i _ (getD_at f2 z36 i hlt), List.any_append, ← Bool.or_assoc] at hih
    have e : ([f2.getD i z36].any fun s => decide (s.f0 < s.f1)) = decide ((f2.getD i z36).f0 < (f2.getD i z36).f1) := by simp
    rw [e] at hih
    rw [sennitref05_Empty.l0, if_pos (by omega), w1 (by omega), rd36]
    generalize (decide (b1 < b2) || (f2.take i).any fun s => decide (s.f0 < s.f1)) = x at hih ⊢
    cases x with
    | true => rw [if_pos rfl]; exact hih
    | false => rw [if_neg (by decide), if_pos (by omega)]; rw [Bool.false_or] at hih; exact hih
theorem empty_f (s : Bool) (b1 b2 : Int) (f2 : List S36) (hl : f2.length ≤ 1000000) (k : Nat) (hk : f2.length < k) : sennitref05_Empty.f k s b1 b2 f2 = some (!(someS b1 b2 f2)) := by
  have := empty_l0 s b1 b2 f2 hl f2.length 0 k (by omega) hk
  unfold sennitref05_Empty.f
  simpa using this
theorem someS_iff (b1 b2 : Int) (f2 : List S36) : someS b1 b2 f2 = true ↔ (b1 < b2 ∨ ∃ i, i < f2.length ∧ (f2.getD i z36).f0 < (f2.getD i z36).f1) := by
  unfold someS
  simp only [Bool.or_eq_true, decide_eq_true_eq, List.any_eq_true]
  refine or_congr Iff.rfl ⟨?_, ?_⟩
  · rintro ⟨x, hx, h⟩
    obtain ⟨i, hi, rfl⟩ := mem_getD f2 z36 x hx
    exact ⟨i, hi, h⟩
  · rintro ⟨i, hi, h⟩
    exact ⟨_, getD_mem f2 z36 i hi, h⟩
def SideOk (s : Bool) (from_ tt : Int) (a : List Int) (f2 : List S36) (q : Nat) : Prop := (f2.getD q z36).f0 = a.getD q 0 ∧ a.getD q 0 ≤ (f2.getD q z36).f1 ∧ (s = true → (f2.getD q z36).f1 - a.getD q 0 = tt - from_)
theorem cov_l1 (l : List S39) (m : Nat) (sizes a : List Int) (s : Bool) (from_ tt : Int) (f2 : List S36) (x9 : Nat) (P0 : Prop) (K : Nat) (hn : sizes.length ≤ 1000) (ha : a.length = sizes.length) (hf : f2.length = sizes.length) (ha0 : ∀ q < a.length, 0 ≤ a.getD q 0) (hf64 : ∀ s ∈ f2, s.f1 ≤ 9223372036854775807) (h0 : 0 ≤ from_) (h1 : from_ ≤ tt) (h2 : tt ≤ 9223372036854775807)
    (hx9 : x9 ≤ 1000000) (H : (∀ q, q < sizes.length → SideOk s from_ tt a f2 q) → ∀ k, K ≤ k → ∃ r, sennitlaw05_covers.l0 k l (m : Int) sizes tt (f2.map fun s => s.f1) ((x9 + 1 : Nat) : Int) = some r ∧ (r = true ↔ P0)) : ∀ d i k, i + d = sizes.length → K + d + 1 ≤ k → (∀ q, q < i → SideOk s from_ tt a f2 q) →
    ∃ r, sennitlaw05_covers.l1 k l (m : Int) sizes tt (mixL a (f2.map fun s => s.f1) i) (x9 : Int) (i : Int) s from_ tt f2 = some r ∧ (r = true ↔ ((∀ q, i ≤ q → q < sizes.length → SideOk s from_ tt a f2 q) ∧ P0)) := by
  intro d
  induction d with
  | zero =>
    intro i k hi hk hpre
    obtain ⟨k, rfl⟩ : ∃ q, k = q + 1 := ⟨k - 1, by omega⟩
    obtain ⟨r, hr, hP⟩ := H (fun q hq => hpre q (by omega)) k (by omega)
    have hm : mixL a (f2.map fun s => s.f1) i = f2.map fun s => s.f1 := by
      unfold mixL
      rw [List.drop_of_length_le (by omega), List.append_nil, List.take_of_length_le (by simp; omega)]
    rw [sennitlaw05_covers.l1, if_neg (by omega), w1 hx9, hm]
    exact ⟨r, hr, hP.trans ⟨fun h => ⟨fun q h1 h2 => by omega, h⟩, fun h => h.2⟩⟩
  | succ d ih =>
    intro i k hi hk hpre
    obtain ⟨k, rfl⟩ : ∃ q, k = q + 1 := ⟨k - 1, by omega⟩
    have hia : i < a.length := by omega
    have hif : i < f2.length := by omega
    have hit : i < (f2.map fun s => s.f1).length := by simp; omega
    have hmx : rd (mixL a (f2.map fun s => s.f1) i) (i : Int) = a.getD i 0 := by
      rw [rd_at, List.getD_eq_getElem?_getD, mixL_at _ _ _ hia hit]; rfl
    have hset : (mixL a (f2.map fun s => s.f1) i).set (i : Int).toNat (f2.getD i z36).f1 = mixL a (f2.map fun s => s.f1) (i + 1) := by
      rw [Int.toNat_natCast, ← mixL_set _ _ _ hia hit, map_getD (fun s : S36 => s.f1) z36 0 f2 i hif]
    have hml : i < (mixL a (f2.map fun s => s.f1) i).length := by
      have := mixL_at a (f2.map fun s => s.f1) i hia hit
      exact (List.getElem?_eq_some_iff.1 this).1
    have b0 := ha0 i hia
    have b1 := hf64 _ (getD_mem f2 z36 i hif)
    have hsplit : ((∀ q, i ≤ q → q < sizes.length → SideOk s from_ tt a f2 q) ∧ P0) ↔ (SideOk s from_ tt a f2 i ∧ ((∀ q, i + 1 ≤ q → q < sizes.length → SideOk s from_ tt a f2 q) ∧ P0)) := by
      constructor
      · intro h
        exact ⟨h.1 i (Nat.le_refl _) (by omega), fun q h1 h2 => h.1 q (by omega) h2, h.2⟩
      · intro h
        refine ⟨fun q h1 h2 => ?_, h.2.2⟩
        rcases Nat.lt_or_ge i q with h3 | h3
        · exact h.2.1 q h3 h2
        · obtain rfl : q = i := by omega
          exact h.1
    have no : ¬ SideOk s from_ tt a f2 i → ∃ r, some false = some r ∧ (r = true ↔ ((∀ q, i ≤ q → q < sizes.length → SideOk s from_ tt a f2 q) ∧ P0)) := fun hno => ⟨false, rfl, by rw [hsplit]; simp [hno]⟩
    rw [sennitlaw05_covers.l1, if_pos (by omega), if_pos (by omega), if_pos (by omega), if_pos (by omega), rd36, hmx, hset]
    by_cases e1 : (f2.getD i z36).f0 = a.getD i 0
    · rw [if_pos e1]
      by_cases e2 : (f2.getD i z36).f1 < (f2.getD i z36).f0
      · rw [if_pos e2]
        exact no fun h => by have := h.2.1; omega
      · rw [if_neg e2]
        have go : SideOk s from_ tt a f2 i → ∃ r, sennitlaw05_covers.l1 k l (m : Int) sizes tt (mixL a (f2.map fun s => s.f1) (i + 1)) (x9 : Int) ((i + 1 : Nat) : Int) s from_ tt f2 = some r ∧ (r = true ↔ ((∀ q, i ≤ q → q < sizes.length → SideOk s from_ tt a f2 q) ∧ P0)) := fun hy =>
          by
            obtain ⟨r, hr, hP⟩ := ih (i + 1) k (by omega) (by omega) fun q hq => by
              rcases Nat.lt_or_ge q i with h | h
              · exact hpre q h
              · obtain rfl : q = i := by omega
                exact hy
            exact ⟨r, hr, by rw [hsplit, hP]; exact ⟨fun h => ⟨hy, h⟩, fun h => h.2⟩⟩
        cases s with
        | false =>
          rw [if_neg (by decide), w1 (by omega)]
          exact go ⟨e1, by omega, by simp⟩
        | true =>
          rw [if_pos rfl]
          by_cases e3 : (f2.getD i z36).f1 - a.getD i 0 = tt - from_
          · have hgo := go ⟨e1, by omega, fun _ => e3⟩
            rw [wdiff (by omega) (by omega) (by omega), wdiff h0 h1 h2, if_pos (by omega), w1 (by omega)]
            exact hgo
          · rw [wdiff (by omega) (by omega) (by omega), wdiff h0 h1 h2, if_neg (by omega)]
            exact no fun h => e3 (h.2.2 rfl)
    · rw [if_neg e1]
      exact no fun h => e1 h.1
theorem cov_l2 (m : Nat) (sizes a : List Int) (b : Int) (ha : a.length = sizes.length) (hn : sizes.length ≤ 1000) : ∀ d i k, i + d = sizes.length → d < k → (∀ q < i, a.getD q 0 = sizes.getD q 0) →
    ∃ r, sennitlaw05_covers.l2 k (m : Int) sizes b a (i : Int) = some r ∧ (r = true ↔ (b = m ∧ a = sizes)) := by
  intro d
  induction d with
  | zero =>
    intro i k hi hk hq
    obtain ⟨k, rfl⟩ : ∃ q, k = q + 1 := ⟨k - 1, by omega⟩
    rw [sennitlaw05_covers.l2, if_neg (by omega)]
    refine ⟨_, rfl, ?_⟩
    rw [beq_iff_eq]
    exact ⟨fun h => ⟨h, ext_getD 0 _ _ ha fun q hq1 => hq q (by omega)⟩, fun h => h.1⟩
  | succ d ih =>
    intro i k hi hk hq
    obtain ⟨k, rfl⟩ : ∃ q, k = q + 1 := ⟨k - 1, by omega⟩
    rw [sennitlaw05_covers.l2, if_pos (by omega), if_pos (by omega), if_pos (by omega), rd_at, rd_at]
    by_cases e : a.getD i 0 = sizes.getD i 0
    · rw [if_pos e, w1 (by omega)]
      refine ih (i + 1) k (by omega) (by omega) fun q hq1 => ?_
      rcases Nat.lt_or_ge q i with h | h
      · exact hq q h
      · obtain rfl : q = i := by omega
        exact e
    · rw [if_neg e]
      exact ⟨false, rfl, by simp; intro _ h; exact e (by rw [h])⟩
def prevF (l : List S39) (i : Nat) : Option Bool := if i = 0 then none else some (l.getD (i - 1) z39).f0
theorem cov_l0 (l : List S39) (m : Nat) (sizes : List Int) (hn : sizes.length ≤ 100) (hl : l.length ≤ 1000) (h64 : In64 l) : ∀ d i k b a, i + d = l.length → 200 * (d + 1) ≤ k → a.length = sizes.length → 0 ≤ b → (∀ q < a.length, 0 ≤ a.getD q 0) →
    ∃ r, sennitlaw05_covers.l0 k l (m : Int) sizes b a (i : Int) = some r ∧ (r = true ↔ Cov m sizes b a (prevF l i) (l.drop i)) := by
  intro d
  induction d with
  | zero =>
    intro i k b a hi hk ha hb ha0
    obtain ⟨k, rfl⟩ : ∃ q, k = q + 1 := ⟨k - 1, by omega⟩
    rw [sennitlaw05_covers.l0, if_neg (by omega), List.drop_of_length_le (by omega)]
    exact cov_l2 m sizes a b ha (by omega) sizes.length 0 k (by omega) (by omega) (fun q h => by omega)
  | succ d ih =>
    intro i k b a hi hk ha hb ha0
    obtain ⟨k, rfl⟩ : ∃ q, k = q + 2 := ⟨k - 2, by omega⟩
    have hlt : i < l.length := by omega
    have hd : l.drop i = l.getD i z39 :: l.drop (i + 1) := by
      rw [List.drop_eq_getElem_cons hlt, List.getD_eq_getElem?_getD, List.getElem?_eq_getElem hlt]; rfl
    have hpr : prevF l (i + 1) = some (l.getD i z39).f0 := by unfold prevF; rw [if_neg (by omega)]; rfl
    have hcm := h64 _ (getD_mem l z39 i hlt)
    have hpv : (i : Int) > 0 → prevF l i = some (rd_T39 l (wrap64 ((i : Int) - 1))).f0 ∧ 0 ≤ wrap64 ((i : Int) - 1) ∧ wrap64 ((i : Int) - 1) < (l.length : Int) := fun h => by
      have e : wrap64 ((i : Int) - 1) = ((i - 1 : Nat) : Int) := by rw [wsub (by omega)]; omega
      rw [e, rd39]
      exact ⟨by unfold prevF; rw [if_neg (by omega)], by omega, by omega⟩
    have hp0 : ¬ ((i : Int) > 0) → prevF l i = none := fun h => by unfold prevF; rw [if_pos (by omega)]
    have hIH := fun k' hk' => ih (i + 1) k' (l.getD i z39).f1.f1 (tos (l.getD i z39)) (by omega) hk'
    rw [hd]
    generalize prevF l i = pv at hpv hp0 ⊢
    rw [hpr] at hIH
    rw [sennitlaw05_covers.l0, if_pos (by omega), if_pos (by omega), rd39]
    generalize l.getD i z39 = c at hIH hcm ⊢
    have stop : ∀ s f t f2, (¬ (Ok0 b a c ∧ pv ≠ some c.f0)) → ∃ r, sennitlaw05_covers.j1 (k + 1) l (m : Int) sizes a (i : Int) true s f t f2 = some r ∧ (r = true ↔ Cov m sizes b a pv (c :: l.drop (i + 1))) := fun s f t f2 hno =>
      ⟨false, by rw [sennitlaw05_covers.j1, if_pos rfl], by simp only [Cov, Bool.false_eq_true, false_iff]; exact fun h => hno ⟨h.1, h.2.1⟩⟩
    by_cases e1 : c.f1.f0 = b
    · rw [if_pos e1]
      by_cases e2 : c.f1.f1 < b
      · rw [if_pos e2]
        exact stop _ _ _ _ fun h => by have := h.1.hle; omega
      · rw [if_neg e2]
        by_cases e3 : (c.f2.length : Int) = (sizes.length : Int)
        · rw [if_pos e3]
          have hf : c.f2.length = sizes.length := by omega
          have rest : pv ≠ some c.f0 → ∃ r, ((sennitref05_Empty.f (k + 1) c.f0 c.f1.f0 c.f1.f1 c.f2).bind fun t => sennitlaw05_covers.j1 (k + 1) l (m : Int) sizes a (i : Int) t c.f0 c.f1.f0 c.f1.f1 c.f2) = some r ∧ (r = true ↔ Cov m sizes b a pv (c :: l.drop (i + 1))) := by
            intro hpn
            rw [empty_f _ _ _ _ (by omega) _ (by omega), Option.bind_some]
            cases hs : someS c.f1.f0 c.f1.f1 c.f2 with
            | false =>
              refine stop _ _ _ _ fun h => ?_
              have := h.1.hne
              rw [Bool.eq_false_iff] at hs
              refine hs ((someS_iff _ _ _).2 ?_)
              rcases this with h5 | ⟨q, hq, h5⟩
              · exact .inl (by omega)
              · exact .inr ⟨q, by omega, by rw [h.1.hf q hq]; exact h5⟩
            | true =>
              rw [Bool.not_true, sennitlaw05_covers.j1, if_neg (by decide)]
              have hto : tos c = c.f2.map fun s => s.f1 := rfl
              rw [hto] at hIH
              have hok : (∀ q, q < sizes.length → SideOk c.f0 c.f1.f0 c.f1.f1 a c.f2 q) → Ok0 b a c := fun hall => by
                refine ⟨e1, by omega, fun q hq => (hall q (by omega)).1, by omega, fun q hq => (hall q (by omega)).2.1, ?_, fun h1 q hq => by rw [← e1]; exact (hall q (by omega)).2.2 h1⟩
                rcases (someS_iff _ _ _).1 hs with h5 | ⟨q, hq, h5⟩
                · exact .inl (by omega)
                · exact .inr ⟨q, by omega, by have := (hall q (by omega)).1; omega⟩
              have H : (∀ q, q < sizes.length → SideOk c.f0 c.f1.f0 c.f1.f1 a c.f2 q) → ∀ k', 200 * (d + 1) ≤ k' → ∃ r, sennitlaw05_covers.l0 k' l (m : Int) sizes c.f1.f1 (c.f2.map fun s => s.f1) ((i + 1 : Nat) : Int) = some r ∧ (r = true ↔ Cov m sizes c.f1.f1 (tos c) (some c.f0) (l.drop (i + 1))) := fun hall k' hk' =>
                hIH k' hk' (by simp; omega) (by omega) (fun q hq => by
                  have hq' : q < c.f2.length := by simpa using hq
                  rw [map_getD (fun s : S36 => s.f1) z36 0 c.f2 q hq']
                  have h5 := (hall q (by omega)).2.1
                  have h6 := ha0 q (by omega)
                  omega)
              have := cov_l1 l m sizes a c.f0 c.f1.f0 c.f1.f1 c.f2 i _ _ (by omega) ha hf ha0 hcm.2 (by omega) (by omega) hcm.1 (by omega) H sizes.length 0 k (by omega) (by omega) (fun q hq => by omega)
              rw [show mixL a (c.f2.map fun s => s.f1) 0 = a from by simp [mixL]] at this
              obtain ⟨r, h5, h6⟩ := this
              exact ⟨r, h5, h6.trans ⟨fun h => ⟨hok fun q hq => h.1 q (Nat.zero_le _) hq, hpn, h.2⟩, fun h => ⟨fun q _ hq => ⟨h.1.hf q (by omega), h.1.hsl q (by omega), fun h1 => by rw [e1]; exact h.1.hst h1 q (by omega)⟩, h.2.2⟩⟩⟩
          by_cases e4 : (i : Int) > 0
          · obtain ⟨p1, p2, p3⟩ := hpv e4
            rw [if_pos e4, if_pos p2, if_pos p3]
            by_cases e5 : (c.f0 == (rd_T39 l (wrap64 ((i : Int) - 1))).f0) = true
            · rw [if_pos e5]
              exact stop _ _ _ _ fun h => h.2 (by rw [p1, beq_iff_eq.1 e5])
            · rw [if_neg e5]
              exact rest (by rw [p1]; intro h; injection h with h; exact e5 (by rw [h]; exact beq_self_eq_true _))
          · rw [if_neg e4]
            exact rest (by rw [hp0 e4]; simp)
        · rw [if_neg e3]
          exact stop _ _ _ _ fun h => by have := h.1.hlen; omega
    · rw [if_neg e1]
      exact stop _ _ _ _ fun h => e1 h.1.hb
/-- covers tells whether chunks cover all. -/
theorem covers_f (l : List S39) (m : Nat) (sizes : List Int) (hn : sizes.length ≤ 100) (hl : l.length ≤ 1000) (h64 : In64 l) (k : Nat) (hk : 300000 ≤ k) :
    ∃ r, sennitlaw05_covers.f k l (m : Int) sizes = some r ∧ (r = true ↔ Cov m sizes 0 (List.replicate sizes.length 0) none l) := by
  unfold sennitlaw05_covers.f
  rw [if_pos (by omega), if_pos (by rw [Int.toNat_natCast]; omega), Int.toNat_natCast]
  have := cov_l0 l m sizes hn hl h64 l.length 0 k 0 (List.replicate sizes.length 0) (by omega) (by omega) (by simp) (by omega) (fun q _ => by rw [rep_get]; exact Int.le_refl _)
  exact this
end Go.Proofs.Ytnebadlakmlkkaa.Pure
namespace Go.Proofs.Ytnebadlakmlkkaa.Pure
open Go.RowKit Go.Proofs.Ytnebadlakmlkkaa.M Go.Proofs.Ytnebadlakmlkkaa.Hand Go.Proofs.YtnebadlakmlkkaaW.PrintWords Go.Proofs.YtnebadlakmlkkaaW.PrintLast Go.Proofs.YtnebadlakmlkkaaW.PrintMore
set_option linter.unusedVariables false
theorem fits_len {M : List (List Int)} {m : Nat} {sizes : List Int} : ∀ (l : List S39) (b : Int) (a : List Int) (p : Option Bool), Fits M m sizes b a p l → (l.length : Int) ≤ 2 * (m - b) + (if p = some false then 0 else 1)
  | [], b, a, p, h => by
    obtain ⟨hb, _⟩ := h
    split <;> simp <;> omega
  | c :: t, b, a, p, ⟨h1, h2, h3⟩ => by
    have ih := fits_len t _ _ _ h3
    have hle := h1.hle
    rw [List.length_cons]
    cases hc : c.f0 with
    | true =>
      have := ok_base h1 hc
      rw [hc, if_neg (by simp)] at ih
      split <;> omega
    | false =>
      rw [hc] at h2
      rw [hc, if_pos rfl] at ih
      rw [if_neg h2]
      omega
theorem fits_in {M : List (List Int)} {m : Nat} {sizes : List Int} (hm : m ≤ 1000) (hs : ∀ x ∈ sizes, x ≤ 1000) : ∀ (l : List S39) (b : Int) (a : List Int) (p : Option Bool), Fits M m sizes b a p l → ∀ c ∈ l, c.f2.length = a.length ∧ c.f1.f1 ≤ 1000 ∧ ∀ s ∈ c.f2, s.f1 ≤ 1000
  | [], b, a, p, h, c, hc => by cases hc
  | d :: t, b, a, p, ⟨h1, h2, h3⟩, c, hc => by
    rcases List.mem_cons.1 hc with rfl | hc
    · obtain ⟨q1, q2, q3⟩ := fits_end t _ _ _ h3
      refine ⟨h1.hlen, by omega, fun s hsm => ?_⟩
      obtain ⟨i, hi, rfl⟩ := mem_getD _ z36 s hsm
      have := q3 i (by rw [tos_len]; exact hi)
      rw [tos_get _ _ hi] at this
      rw [tos_len] at q2
      have := hs _ (getD_mem sizes 0 i (by omega))
      omega
    · have := fits_in hm hs t _ _ _ h3 c hc
      rw [tos_len, h1.hlen] at this
      exact this
theorem Small5.fits {a : List Int} {l : List (List Int)} (h : Small5 a l) : Fits (matchesF a l) a.length (sizesF l) 0 (List.replicate (sizesF l).length 0) none (cutF a l) := align_fits h.okM
theorem Small5.sizes {a : List Int} {l : List (List Int)} (h : Small5 a l) : ∀ x ∈ sizesF l, x ≤ 1000 := fun x hx => by
  obtain ⟨i, hi, rfl⟩ := mem_getD _ 0 x hx
  rw [sizesF_len] at hi
  rw [sizesF_at _ _ hi]
  have := h.y30 _ (getD_mem l [] i hi)
  omega
theorem Small5.len {a : List Int} {l : List (List Int)} (h : Small5 a l) : (cutF a l).length ≤ 61 := by
  have := fits_len _ _ _ _ h.fits
  rw [if_neg (by simp)] at this
  have := h.a30
  omega
theorem Small5.in64 {a : List Int} {l : List (List Int)} (h : Small5 a l) : In64 (cutF a l) := fun c hc => by
  have := fits_in (by have := h.a30; omega) h.sizes _ _ _ _ h.fits c hc
  exact ⟨by omega, fun s hs => by have := this.2.2 s hs; omega⟩
theorem few_of {a : List Int} {l : List (List Int)} (h : a.length ≤ 30 ∧ 1 ≤ l.length ∧ l.length ≤ 6 ∧ ∀ y ∈ l, y.length ≤ 30) : Small5 a l := ⟨h.1, h.2.1, by omega, h.2.2.2⟩
theorem bytes_of {a : List Int} {l : List (List Int)} (h0 : ∀ x ∈ a, (Lit.int .u8 x).wf = true) (h1 : ∀ y ∈ l, y.length ≤ 9223372036854775807 ∧ ∀ x ∈ y, (Lit.int .u8 x).wf = true) : Bytes5 a l := ⟨byte_ok h0, fun y hy => byte_ok (h1 y hy).2⟩
end Go.Proofs.Ytnebadlakmlkkaa.Pure
namespace Go.Proofs.Ytnebadlakmlkkaa.Pure
open Go.RowKit Go.Proofs.Ytnebadlakmlkkaa.M Go.Proofs.Ytnebadlakmlkkaa.Hand Go.Proofs.YtnebadlakmlkkaaW.PrintWords Go.Proofs.YtnebadlakmlkkaaW.PrintLast Go.Proofs.YtnebadlakmlkkaaW.PrintMore
set_option linter.unusedVariables false
/-- What is known of a chunk of a list that fits. -/
structure ChF (M : List (List Int)) (m n : Nat) (c : S39) : Prop where
  b0 : 0 ≤ c.f1.f0
  bm : c.f1.f1 ≤ m
  ble : c.f1.f0 ≤ c.f1.f1
  len : c.f2.length = n
  s0 : ∀ i < n, 0 ≤ (c.f2.getD i z36).f0 ∧ (c.f2.getD i z36).f0 ≤ 1000
  hk : ∀ k : Nat, c.f1.f0 ≤ k → (k : Int) < c.f1.f1 → stabB M k = c.f0 ∧ (c.f0 = true → ∀ i < n, mm M i k = (c.f2.getD i z36).f0 + k - c.f1.f0)
theorem fits_ch {M : List (List Int)} {m : Nat} {sizes : List Int} (hs : ∀ x ∈ sizes, x ≤ 1000) : ∀ (l : List S39) (b : Int) (a : List Int) (p : Option Bool), Fits M m sizes b a p l → 0 ≤ b → (∀ i < a.length, 0 ≤ a.getD i 0) → ∀ c ∈ l, ChF M m a.length c
  | [], b, a, p, h, _, _, c, hc => by cases hc
  | d :: t, b, a, p, ⟨h1, h2, h3⟩, hb, ha, c, hc => by
    obtain ⟨q1, q2, q3⟩ := fits_end t _ _ _ h3
    rcases List.mem_cons.1 hc with rfl | hc
    · refine ⟨by rw [h1.hb]; exact hb, q1, by rw [h1.hb]; exact h1.hle, h1.hlen, fun i hi => ?_, fun k hk1 hk2 => ?_⟩
      · rw [h1.hf i hi]
        refine ⟨ha i hi, ?_⟩
        have e1 := h1.hsl i hi
        have e2 := q3 i (by rw [tos_len, h1.hlen]; exact hi)
        rw [tos_get _ _ (by rw [h1.hlen]; exact hi)] at e2
        rw [tos_len, h1.hlen] at q2
        have e3 := hs _ (getD_mem sizes 0 i (by omega))
        omega
      · rw [h1.hb] at hk1 ⊢
        obtain ⟨e1, e2⟩ := h1.hk k hk1 hk2
        exact ⟨e1, fun hc i hi => by rw [h1.hf i hi]; exact e2 hc i hi⟩
    · have := fits_ch hs t _ _ _ h3 (Int.le_trans hb h1.hle) (fun i hi => by
        rw [tos_len] at hi
        rw [tos_get _ _ hi]
        rw [h1.hlen] at hi
        have e1 := h1.hsl i hi
        have e2 := ha i hi
        omega) c hc
      rwa [tos_len, h1.hlen] at this
theorem Small5.ch {a : List Int} {l : List (List Int)} (h : Small5 a l) : ∀ c ∈ cutF a l, ChF (matchesF a l) a.length l.length c := fun c hc => by
  have := fits_ch h.sizes _ _ _ _ h.fits (Int.le_refl _) (fun i hi => by rw [rep_get]; exact Int.le_refl _) c hc
  rwa [List.length_replicate, sizesF_len] at this
def allP (M : List (List Int)) (k s : Nat) : Bool := (M.take s).all fun l => decide (l.getD k 0 ≥ 0)
theorem allP_succ (M : List (List Int)) (k s : Nat) (h : s < M.length) : allP M k (s + 1) = (allP M k s && decide (mm M s k ≥ 0)) := by
  unfold allP mm
  exact all_take_succ _ M s _ (getD_at M [] s h)
theorem allP_end (M : List (List Int)) (k : Nat) : allP M k M.length = stabB M k := by
  unfold allP stabB
  rw [List.take_length]
  refine List.all_congr rfl fun l => ?_
  by_cases h : l.getD k 0 < 0
  · rw [decide_eq_true h, decide_eq_false (by omega)]; rfl
  · rw [decide_eq_false h, decide_eq_true (by omega)]; rfl
/-- A place of a side, as Go reckons it. -/
theorem wplace {x : Int} {k : Nat} {b : Int} (h0 : 0 ≤ x) (h1 : x ≤ 1000) (h2 : k ≤ 1000) (h3 : 0 ≤ b) (h4 : b ≤ k) : wrap64 (wrap64 (x + (k : Int)) - b) = x + k - b := by
  rw [show wrap64 (x + (k : Int)) = x + k from wsm (by omega) (by omega)]
  exact wsm (by omega) (by omega)
end Go.Proofs.Ytnebadlakmlkkaa.Pure
