/- Texts of the claim AlignStable, put together (part 9): By a program of this session: a Go function as a Lean function, and that the machine's call does what it says. Layer 5, plain: the chunks of matches cover all, take turns, and pair as the matches do; there is one such list. -/
import Derived.ArgAppend
import Derived.Below
import Derived.BigQuiet
import Derived.Deep.AppendLies
import Derived.Deep.CutBlock
import Derived.Deep.DeepCutAuto
import Derived.Deep.DrawnRows
import Derived.Deep.Draws
import Derived.Deep.LoopGhost
import Derived.Deep.OwnRows
import Derived.Deep.QuietTactic
import Derived.Deep.RegionHeld3
import Derived.KernelRfl
import Derived.Laws.BitsLemmas
import Derived.Laws.BytesArg
import Derived.Laws.IdiomCopy
import Derived.Laws.MakeOwn
import Derived.Laws.OwnMore
import Derived.Laws.Rows
import Derived.Laws.Slices
import Derived.Laws.StructEq
import Derived.Lib.AppendStr
import Derived.Lib.ConvBytes
import Derived.Maps.AppendAt
import Derived.OrdersHeld
import Derived.OwnWalk
import Derived.RowKit
import Derived.RowKit3
import Derived.Tactics
import Derived.Test.YtnebadlakmlkkaaProg
import Derived.WalkKit
import Derived.WalkMore
import Derived.WideLaws
import Derived.Test.YtnebadlakmlkkaaAlignStableQ8
namespace Go.Proofs.Ytnebadlakmlkkaa.M
open Go.RowKit Go.Proofs.YtnebadlakmlkkaaW.PrintWords Go.Proofs.YtnebadlakmlkkaaW.PrintLast Go.Proofs.YtnebadlakmlkkaaW.PrintMore
attribute [local go_sem] max2_int min2_int max_two min_two max_three min_three max_four min_four
set_option linter.unusedVariables false
set_option linter.unusedSimpArgs false

/-! ### sennitlaw05_AlignStable: function 4 -/
mutual
def sennitlaw05_AlignStable.l0 : Nat → List Int → List (List Int) → Bool → List (List Int) → List (S39) → Int → Option (Bool)
  | 0, _, _, _, _, _, _ => none
  | k + 1, x0, x1, x5, x7, x8, x9 => if x9 < (x8.length : Int) then (if 0 ≤ x9 then (sennitlaw05_AlignStable.l1 k x0 x1 x5 x7 x8 x9 ((rd_T39 x8 x9).f1.f0)) else (none)) else (some x5)
def sennitlaw05_AlignStable.l1 : Nat → List Int → List (List Int) → Bool → List (List Int) → List (S39) → Int → Int → Option (Bool)
  | 0, _, _, _, _, _, _, _ => none
  | k + 1, x0, x1, x5, x7, x8, x9, x10 => if 0 ≤ x9 then (if x9 < (x8.length : Int) then (if x10 < ((rd_T39 x8 x9).f1.f1) then (sennitlaw05_AlignStable.l2 k x0 x1 x5 x7 x8 x9 x10 true 0) else (sennitlaw05_AlignStable.l0 k x0 x1 x5 x7 x8 (wrap64 (x9 + 1)))) else (none)) else (none)
def sennitlaw05_AlignStable.l2 : Nat → List Int → List (List Int) → Bool → List (List Int) → List (S39) → Int → Int → Bool → Int → Option (Bool)
  | 0, _, _, _, _, _, _, _, _, _ => none
  | k + 1, x0, x1, x5, x7, x8, x9, x10, x11, x12 => if x12 < (x1.length : Int) then (if 0 ≤ x9 then (if x9 < (x8.length : Int) then (if 0 ≤ x12 then (if x12 < (((rd_T39 x8 x9).f2).length : Int) then (if x11 = true then (if x12 < (x7.length : Int) then (if 0 ≤ x10 then (if x10 < ((rd_L1 x7 x12).length : Int) then (if (rd_T39 x8 x9).f0 = true then (if (rd (rd_L1 x7 x12) x10) = (wrap64 ((wrap64 (((rd_T36 ((rd_T39 x8 x9).f2) x12).f0) + x10)) - ((rd_T39 x8 x9).f1.f0))) then (if 0 ≤ (wrap64 ((wrap64 (((rd_T36 ((rd_T39 x8 x9).f2) x12).f0) + x10)) - ((rd_T39 x8 x9).f1.f0))) then (if (wrap64 ((wrap64 (((rd_T36 ((rd_T39 x8 x9).f2) x12).f0) + x10)) - ((rd_T39 x8 x9).f1.f0))) < ((rd_L9 x1 x12).length : Int) then (if x10 < (x0.length : Int) then (if (rd (rd_L9 x1 x12) (wrap64 ((wrap64 (((rd_T36 ((rd_T39 x8 x9).f2) x12).f0) + x10)) - ((rd_T39 x8 x9).f1.f0)))) = (rd x0 x10) then (sennitlaw05_AlignStable.l2 k x0 x1 x5 x7 x8 x9 x10 (decide ((rd (rd_L1 x7 x12) x10) ≥ 0)) (wrap64 (x12 + 1))) else (some false)) else (none)) else (none)) else (none)) else (some false)) else (sennitlaw05_AlignStable.l2 k x0 x1 x5 x7 x8 x9 x10 (decide ((rd (rd_L1 x7 x12) x10) ≥ 0)) (wrap64 (x12 + 1)))) else (none)) else (none)) else (none)) else (if (rd_T39 x8 x9).f0 = true then (if x12 < (x7.length : Int) then (if 0 ≤ x10 then (if x10 < ((rd_L1 x7 x12).length : Int) then (if (rd (rd_L1 x7 x12) x10) = (wrap64 ((wrap64 (((rd_T36 ((rd_T39 x8 x9).f2) x12).f0) + x10)) - ((rd_T39 x8 x9).f1.f0))) then (if 0 ≤ (wrap64 ((wrap64 (((rd_T36 ((rd_T39 x8 x9).f2) x12).f0) + x10)) - ((rd_T39 x8 x9).f1.f0))) then (if (wrap64 ((wrap64 (((rd_T36 ((rd_T39 x8 x9).f2) x12).f0) + x10)) - ((rd_T39 x8 x9).f1.f0))) < ((rd_L9 x1 x12).length : Int) then (if x10 < (x0.length : Int) then (if (rd (rd_L9 x1 x12) (wrap64 ((wrap64 (((rd_T36 ((rd_T39 x8 x9).f2) x12).f0) + x10)) - ((rd_T39 x8 x9).f1.f0)))) = (rd x0 x10) then (sennitlaw05_AlignStable.l2 k x0 x1 x5 x7 x8 x9 x10 false (wrap64 (x12 + 1))) else (some false)) else (none)) else (none)) else (none)) else (some false)) else (none)) else (none)) else (none)) else (sennitlaw05_AlignStable.l2 k x0 x1 x5 x7 x8 x9 x10 false (wrap64 (x12 + 1))))) else (none)) else (none)) else (none)) else (none)) else (if 0 ≤ x9 then (if x9 < (x8.length : Int) then (if (x11 != ((rd_T39 x8 x9).f0)) = true then (some false) else (sennitlaw05_AlignStable.l1 k x0 x1 x5 x7 x8 x9 (wrap64 (x10 + 1)))) else (none)) else (none))
end
def sennitlaw05_AlignStable.f (k : Nat) (l0 : List Int) (l1 : List (List Int)) : Option (Bool) := (sennitlaw05_awake.f k).bind fun t227 => ((sennitref05_Few.f k l0 l1).bind fun t228 => (if t228 = true then ((sennitref03_Ints.f k l0).bind fun t229 => ((sennitref05_Lists.f k l1).bind fun t232 => ((sennitref05_Matches.f k t229 t232).bind fun bt235 => ((sennitlaw05_cut.f k l0 l1).bind fun t241 => ((sennitlaw05_covers.f k t241 (l0.length : Int) bt235.1).bind fun t244 => (if t244 = true then (sennitlaw05_AlignStable.l0 k l0 l1 t227 bt235.2 t241 0) else (some false))))))) else (some t227)))
theorem sennitlaw05_AlignStable.mono_l : ∀ k, (∀ y0 y1 y2 y3 y4 y5, LeO (sennitlaw05_AlignStable.l0 k y0 y1 y2 y3 y4 y5) (sennitlaw05_AlignStable.l0 (k + 1) y0 y1 y2 y3 y4 y5)) ∧ (∀ y0 y1 y2 y3 y4 y5 y6, LeO (sennitlaw05_AlignStable.l1 k y0 y1 y2 y3 y4 y5 y6) (sennitlaw05_AlignStable.l1 (k + 1) y0 y1 y2 y3 y4 y5 y6)) ∧ (∀ y0 y1 y2 y3 y4 y5 y6 y7 y8, LeO (sennitlaw05_AlignStable.l2 k y0 y1 y2 y3 y4 y5 y6 y7 y8) (sennitlaw05_AlignStable.l2 (k + 1) y0 y1 y2 y3 y4 y5 y6 y7 y8))
  | 0 => ⟨fun _ _ _ _ _ _ r h => by simp [sennitlaw05_AlignStable.l0] at h, fun _ _ _ _ _ _ _ r h => by simp [sennitlaw05_AlignStable.l1] at h, fun _ _ _ _ _ _ _ _ _ r h => by simp [sennitlaw05_AlignStable.l2] at h⟩
  | k + 1 => by
    obtain ⟨ih0, ih1, ih2⟩ := sennitlaw05_AlignStable.mono_l k
    refine ⟨?_, ?_, ?_⟩
    · intro y0 y1 y2 y3 y4 y5
      unfold sennitlaw05_AlignStable.l0
      repeat' first
      | (with_reducible exact ih0 _ _ _ _ _ _)
      | (with_reducible exact ih1 _ _ _ _ _ _ _)
      | (with_reducible exact ih2 _ _ _ _ _ _ _ _ _)
      | (with_reducible exact sennitlaw05_awake.mono _)
      | (with_reducible exact sennitlaw05_covers.mono _ _ _ _)
      | (with_reducible exact sennitlaw05_cut.mono _ _ _)
      | (with_reducible exact sennitref03_Ints.mono _ _)
      | (with_reducible exact sennitref05_Few.mono _ _ _)
      | (with_reducible exact sennitref05_Lists.mono _ _)
      | (with_reducible exact sennitref05_Matches.mono _ _ _)
      | (with_reducible exact LeO.refl _)
      | (with_reducible exact LeO.none _)
      | (with_reducible refine LeO.ite ?_ ?_)
      | (with_reducible refine LeO.bind ?_ (fun _ => ?_))
      | exact ih0 _ _ _ _ _ _
      | exact ih1 _ _ _ _ _ _ _
      | exact ih2 _ _ _ _ _ _ _ _ _
      | exact sennitlaw05_awake.mono _
      | exact sennitlaw05_covers.mono _ _ _ _
      | exact sennitlaw05_cut.mono _ _ _
      | exact sennitref03_Ints.mono _ _
      | exact sennitref05_Few.mono _ _ _
      | exact sennitref05_Lists.mono _ _
      | exact sennitref05_Matches.mono _ _ _
      | exact LeO.none _
      | refine LeO.ite ?_ ?_
      | refine LeO.bind ?_ (fun _ => ?_)
    · intro y0 y1 y2 y3 y4 y5 y6
      unfold sennitlaw05_AlignStable.l1
      repeat' first
      | (with_reducible exact ih0 _ _ _ _ _ _)
      | (with_reducible exact ih1 _ _ _ _ _ _ _)
      | (with_reducible exact ih2 _ _ _ _ _ _ _ _ _)
      | (with_reducible exact sennitlaw05_awake.mono _)
      | (with_reducible exact sennitlaw05_covers.mono _ _ _ _)
      | (with_reducible exact sennitlaw05_cut.mono _ _ _)
      | (with_reducible exact sennitref03_Ints.mono _ _)
      | (with_reducible exact sennitref05_Few.mono _ _ _)
      | (with_reducible exact sennitref05_Lists.mono _ _)
      | (with_reducible exact sennitref05_Matches.mono _ _ _)
      | (with_reducible exact LeO.refl _)
      | (with_reducible exact LeO.none _)
      | (with_reducible refine LeO.ite ?_ ?_)
      | (with_reducible refine LeO.bind ?_ (fun _ => ?_))
      | exact ih0 _ _ _ _ _ _
      | exact ih1 _ _ _ _ _ _ _
      | exact ih2 _ _ _ _ _ _ _ _ _
      | exact sennitlaw05_awake.mono _
      | exact sennitlaw05_covers.mono _ _ _ _
      | exact sennitlaw05_cut.mono _ _ _
      | exact sennitref03_Ints.mono _ _
      | exact sennitref05_Few.mono _ _ _
      | exact sennitref05_Lists.mono _ _
      | exact sennitref05_Matches.mono _ _ _
      | exact LeO.none _
      | refine LeO.ite ?_ ?_
      | refine LeO.bind ?_ (fun _ => ?_)
    · intro y0 y1 y2 y3 y4 y5 y6 y7 y8
      unfold sennitlaw05_AlignStable.l2
      repeat' first
      | (with_reducible exact ih0 _ _ _ _ _ _)
      | (with_reducible exact ih1 _ _ _ _ _ _ _)
      | (with_reducible exact ih2 _ _ _ _ _ _ _ _ _)
      | (with_reducible exact sennitlaw05_awake.mono _)
      | (with_reducible exact sennitlaw05_covers.mono _ _ _ _)
      | (with_reducible exact sennitlaw05_cut.mono _ _ _)
      | (with_reducible exact sennitref03_Ints.mono _ _)
      | (with_reducible exact sennitref05_Few.mono _ _ _)
      | (with_reducible exact sennitref05_Lists.mono _ _)
      | (with_reducible exact sennitref05_Matches.mono _ _ _)
      | (with_reducible exact LeO.refl _)
      | (with_reducible exact LeO.none _)
      | (with_reducible refine LeO.ite ?_ ?_)
      | (with_reducible refine LeO.bind ?_ (fun _ => ?_))
      | exact ih0 _ _ _ _ _ _
      | exact ih1 _ _ _ _ _ _ _
      | exact ih2 _ _ _ _ _ _ _ _ _
      | exact sennitlaw05_awake.mono _
      | exact sennitlaw05_covers.mono _ _ _ _
      | exact sennitlaw05_cut.mono _ _ _
      | exact sennitref03_Ints.mono _ _
      | exact sennitref05_Few.mono _ _ _
      | exact sennitref05_Lists.mono _ _
      | exact sennitref05_Matches.mono _ _ _
      | exact LeO.none _
      | refine LeO.ite ?_ ?_
      | refine LeO.bind ?_ (fun _ => ?_)
theorem sennitlaw05_AlignStable.mono : ∀ a0 a1 k, LeO (sennitlaw05_AlignStable.f k a0 a1) (sennitlaw05_AlignStable.f (k + 1) a0 a1) := by
  intro a0 a1 k
  obtain ⟨ih0, ih1, ih2⟩ := sennitlaw05_AlignStable.mono_l k
  unfold sennitlaw05_AlignStable.f
  repeat' first
      | (with_reducible exact ih0 _ _ _ _ _ _)
      | (with_reducible exact ih1 _ _ _ _ _ _ _)
      | (with_reducible exact ih2 _ _ _ _ _ _ _ _ _)
      | (with_reducible exact sennitlaw05_awake.mono _)
      | (with_reducible exact sennitlaw05_covers.mono _ _ _ _)
      | (with_reducible exact sennitlaw05_cut.mono _ _ _)
      | (with_reducible exact sennitref03_Ints.mono _ _)
      | (with_reducible exact sennitref05_Few.mono _ _ _)
      | (with_reducible exact sennitref05_Lists.mono _ _)
      | (with_reducible exact sennitref05_Matches.mono _ _ _)
      | (with_reducible exact LeO.refl _)
      | (with_reducible exact LeO.none _)
      | (with_reducible refine LeO.ite ?_ ?_)
      | (with_reducible refine LeO.bind ?_ (fun _ => ?_))
      | exact ih0 _ _ _ _ _ _
      | exact ih1 _ _ _ _ _ _ _
      | exact ih2 _ _ _ _ _ _ _ _ _
      | exact sennitlaw05_awake.mono _
      | exact sennitlaw05_covers.mono _ _ _ _
      | exact sennitlaw05_cut.mono _ _ _
      | exact sennitref03_Ints.mono _ _
      | exact sennitref05_Few.mono _ _ _
      | exact sennitref05_Lists.mono _ _
      | exact sennitref05_Matches.mono _ _ _
      | exact LeO.none _
      | refine LeO.ite ?_ ?_
      | refine LeO.bind ?_ (fun _ => ?_)
set_option maxHeartbeats 8000000 in
set_option maxRecDepth 100000 in
theorem sennitlaw05_AlignStable.calls (k : Nat) (A0 : Option Addr) (c0 : Nat) (l0 : List Int) (A1 : Option Addr) (c1 : Nat) (l1 : List (List Int)) (r : Bool) (w : World) (hr0 : Kd.C (Kd.int .u8) w A0 l0.length l0) (hc0 : l0.length ≤ c0) (hr1 : Kd.C (Kd.slice 5 (Kd.int .u8)) w A1 l1.length l1) (hc1 : l1.length ≤ c1) (h : sennitlaw05_AlignStable.f k l0 l1 = some r) :
    Calls Try.prog 4 #[.slice A0 l0.length c0, .slice A1 l1.length c1] w fun e w' => e = .returned (.bool r) ∧ Below w.heap.size w w' := by
  have HR0 := Aside0.mk hr0
  have HC0 := Aside0.mk hc0
  clear hr0 hc0
  have HR1 := Aside0.mk hr1
  have HC1 := Aside0.mk hc1
  clear hr1 hc1
  have HB := Aside0.mk (Below.refl w.heap.size w)
  have H : ((sennitlaw05_awake.f k).bind fun t227 => ((sennitref05_Few.f k l0 l1).bind fun t228 => (if t228 = true then ((sennitref03_Ints.f k l0).bind fun t229 => ((sennitref05_Lists.f k l1).bind fun t232 => ((sennitref05_Matches.f k t229 t232).bind fun bt235 => ((sennitlaw05_cut.f k l0 l1).bind fun t241 => ((sennitlaw05_covers.f k t241 (l0.length : Int) bt235.1).bind fun t244 => (if t244 = true then (sennitlaw05_AlignStable.l0 k l0 l1 t227 bt235.2 t241 0) else (some false))))))) else (some t227)))) = some r := h
  clear h
  replace H := Option.bind_eq_some_iff.mp H
  obtain ⟨t227, A30, H⟩ := H
  replace H : ((sennitref05_Few.f k l0 l1).bind fun t228 => (if t228 = true then ((sennitref03_Ints.f k l0).bind fun t229 => ((sennitref05_Lists.f k l1).bind fun t232 => ((sennitref05_Matches.f k t229 t232).bind fun bt235 => ((sennitlaw05_cut.f k l0 l1).bind fun t241 => ((sennitlaw05_covers.f k t241 (l0.length : Int) bt235.1).bind fun t244 => (if t244 = true then (sennitlaw05_AlignStable.l0 k l0 l1 t227 bt235.2 t241 0) else (some false))))))) else (some t227))) = some r := H
  have A3 := Aside0.mk A30
  clear A30
  replace H := Option.bind_eq_some_iff.mp H
  obtain ⟨t228, A40, H⟩ := H
  replace H : (if t228 = true then ((sennitref03_Ints.f k l0).bind fun t229 => ((sennitref05_Lists.f k l1).bind fun t232 => ((sennitref05_Matches.f k t229 t232).bind fun bt235 => ((sennitlaw05_cut.f k l0 l1).bind fun t241 => ((sennitlaw05_covers.f k t241 (l0.length : Int) bt235.1).bind fun t244 => (if t244 = true then (sennitlaw05_AlignStable.l0 k l0 l1 t227 bt235.2 t241 0) else (some false))))))) else (some t227)) = some r := H
  have A4 := Aside0.mk A40
  clear A40
  by_cases c5 : t228 = true
  · subst c5
    have H1 : ((sennitref03_Ints.f k l0).bind fun t229 => ((sennitref05_Lists.f k l1).bind fun t232 => ((sennitref05_Matches.f k t229 t232).bind fun bt235 => ((sennitlaw05_cut.f k l0 l1).bind fun t241 => ((sennitlaw05_covers.f k t241 (l0.length : Int) bt235.1).bind fun t244 => (if t244 = true then (sennitlaw05_AlignStable.l0 k l0 l1 t227 bt235.2 t241 0) else (some false))))))) = some r := by rw [if_pos rfl] at H; exact H
    clear H
    have H := H1
    clear H1
    replace H := Option.bind_eq_some_iff.mp H
    obtain ⟨t229, A60, H⟩ := H
    replace H : ((sennitref05_Lists.f k l1).bind fun t232 => ((sennitref05_Matches.f k t229 t232).bind fun bt235 => ((sennitlaw05_cut.f k l0 l1).bind fun t241 => ((sennitlaw05_covers.f k t241 (l0.length : Int) bt235.1).bind fun t244 => (if t244 = true then (sennitlaw05_AlignStable.l0 k l0 l1 t227 bt235.2 t241 0) else (some false)))))) = some r := H
    have A6 := Aside0.mk A60
    clear A60
    replace H := Option.bind_eq_some_iff.mp H
    obtain ⟨t232, A70, H⟩ := H
    replace H : ((sennitref05_Matches.f k t229 t232).bind fun bt235 => ((sennitlaw05_cut.f k l0 l1).bind fun t241 => ((sennitlaw05_covers.f k t241 (l0.length : Int) bt235.1).bind fun t244 => (if t244 = true then (sennitlaw05_AlignStable.l0 k l0 l1 t227 bt235.2 t241 0) else (some false))))) = some r := H
    have A7 := Aside0.mk A70
    clear A70
    replace H := Option.bind_eq_some_iff.mp H
    obtain ⟨⟨t235, t236⟩, A80, H⟩ := H
    replace H : ((sennitlaw05_cut.f k l0 l1).bind fun t241 => ((sennitlaw05_covers.f k t241 (l0.length : Int) t235).bind fun t244 => (if t244 = true then (sennitlaw05_AlignStable.l0 k l0 l1 t227 t236 t241 0) else (some false)))) = some r := H
    have A8 := Aside0.mk A80
    clear A80
    replace H := Option.bind_eq_some_iff.mp H
    obtain ⟨t241, A90, H⟩ := H
    replace H : ((sennitlaw05_covers.f k t241 (l0.length : Int) t235).bind fun t244 => (if t244 = true then (sennitlaw05_AlignStable.l0 k l0 l1 t227 t236 t241 0) else (some false))) = some r := H
    have A9 := Aside0.mk A90
    clear A90
    replace H := Option.bind_eq_some_iff.mp H
    obtain ⟨t244, A100, H⟩ := H
    replace H : (if t244 = true then (sennitlaw05_AlignStable.l0 k l0 l1 t227 t236 t241 0) else (some false)) = some r := H
    have A10 := Aside0.mk A100
    clear A100
    by_cases c11 : t244 = true
    · subst c11
      have H1 : (sennitlaw05_AlignStable.l0 k l0 l1 t227 t236 t241 0) = some r := by rw [if_pos rfl] at H; exact H
      clear H
      have H := H1
      clear H1
      have H' := Aside0.mk H
      clear H
      go_enter Try.func4, Try.ntmps4
      go_wp2_with (first | (go_at_call 14; (with_reducible refine (sennitlaw05_awake.calls k  t227 _ A3.out).mono ?_); rintro e w12 ⟨rfl, hb⟩; have n0_ := Aside0.mk (below_step (by repeat (first | (with_reducible first | exact HB.out | apply below_alloc | apply pw_below_drewN | apply below_drew1) | exact HB.out)) hb); clear HB; have HB := n0_; clear n0_; (try clear hb); (try clear hb2); (try clear hk); (try clear hi)) | (go_at_call 15; (with_reducible refine (sennitref05_Few.calls k _ _ l0 _ _ l1 true _ ?side1 ?side2 ?side3 ?side4 A4.out).mono ?_); (case side1 => repeat (first | exact (Kd.C_below HR0.out HB.out) | (with_reducible refine Kd.C_alloc ?_ _) | (with_reducible refine Kd.C_drewN ?_ _) | (with_reducible refine Kd.C_drew ?_))); (case side2 => exact HC0.out); (case side3 => repeat (first | exact (Kd.C_below HR1.out HB.out) | (with_reducible refine Kd.C_alloc ?_ _) | (with_reducible refine Kd.C_drewN ?_ _) | (with_reducible refine Kd.C_drew ?_))); (case side4 => exact HC1.out); rintro e w' ⟨rfl, ⟨nd, rfl⟩⟩; (try first | exact ⟨rfl, _, World.drewN_drewN _ _ _⟩ | exact ⟨rfl, _, Eq.trans (World.drewN_drewN _ _ _) (congrArg (World.drewN _) (Nat.add_assoc _ _ _))⟩)) | (go_at_call 20; (with_reducible refine (sennitref03_Ints.calls k _ _ l0 t229 _ ?side1 ?side2 A6.out).mono ?_); (case side1 => repeat (first | exact (Kd.C_below HR0.out (by repeat (first | (with_reducible first | exact HB.out | apply below_alloc | apply pw_below_drewN | apply below_drew1) | exact HB.out))) | (with_reducible refine Kd.C_alloc ?_ _) | (with_reducible refine Kd.C_drewN ?_ _) | (with_reducible refine Kd.C_drew ?_))); (case side2 => exact HC0.out); rintro e w13 ⟨v230, rfl, ho0, hb⟩; have n0_ := Aside0.mk (Kd.R_lower ho0 (below_size (by repeat (first | (with_reducible first | exact HB.out | apply below_alloc | apply pw_below_drewN | apply below_drew1) | exact HB.out)))); have n1_ := Aside0.mk (below_step (by repeat (first | (with_reducible first | exact HB.out | apply below_alloc | apply pw_below_drewN | apply below_drew1) | exact HB.out)) hb); clear HB; have HO231 := n0_; have HB := n1_; clear n0_ n1_; (try clear hb); (try clear hb2); (try clear hk); (try clear hi); (try clear ho0)) | (go_at_call 17; (with_reducible refine (sennitref05_Lists.calls k _ _ l1 t232 _ ?side1 ?side2 A7.out).mono ?_); (case side1 => repeat (first | exact (Kd.C_below HR1.out HB.out) | (with_reducible refine Kd.C_alloc ?_ _) | (with_reducible refine Kd.C_drewN ?_ _) | (with_reducible refine Kd.C_drew ?_))); (case side2 => exact HC1.out); rintro e w14 ⟨v233, rfl, ho0, hb⟩; have n0_ := Aside0.mk (Kd.R_below (by (with_reducible repeat (first | apply Kd.R_alloc | apply Kd.R_drewN | apply Kd.R_drew)); exact HO231.out) hb); have n1_ := Aside0.mk (Kd.S_lower (Kd.S_new' ho0 (Kd.R_lt (by (with_reducible repeat (first | apply Kd.R_alloc | apply Kd.R_drewN | apply Kd.R_drew)); exact HO231.out))) (below_size (by repeat (first | (with_reducible first | exact HB.out | apply below_alloc | apply pw_below_drewN | apply below_drew1) | exact HB.out)))); have n2_ := Aside0.mk (below_step (by repeat (first | (with_reducible first | exact HB.out | apply below_alloc | apply pw_below_drewN | apply below_drew1) | exact HB.out)) hb); clear HO231; clear HB; have HO231 := n0_; have HO234 := n1_; have HB := n2_; clear n0_ n1_ n2_; (try clear hb); (try clear hb2); (try clear hk); (try clear hi); (try clear ho0); obtain ⟨Ao15, co15, eo15⟩ := Kd.R_slice HO231.out; subst eo15; obtain ⟨Ao16, co16, eo16⟩ := Kd.S_slice HO234.out; subst eo16) | (go_at_call 16; (with_reducible refine (sennitref05_Matches.calls k _ _ t229 _ _ t232 t235 t236 _ ?side1 ?side2 ?side3 ?side4 A8.out).mono ?_); (case side1 => repeat (first | exact (Kd.R_reads' HO231.out).2.2 | (with_reducible refine Kd.C_alloc ?_ _) | (with_reducible refine Kd.C_drewN ?_ _) | (with_reducible refine Kd.C_drew ?_))); (case side2 => exact (Kd.R_reads' HO231.out).2.1); (case side3 => repeat (first | exact (Kd.S_reads' HO234.out).2.2 | (with_reducible refine Kd.C_alloc ?_ _) | (with_reducible refine Kd.C_drewN ?_ _) | (with_reducible refine Kd.C_drew ?_))); (case side4 => exact (Kd.S_reads' HO234.out).2.1); rintro e w17 ⟨v237, v239, rfl, ho0, ho1, hb⟩; have n0_ := Aside0.mk (Kd.R_elder' (by (with_reducible repeat (first | apply Kd.R_alloc | apply Kd.R_drewN | apply Kd.R_drew)); exact HO231.out) (Kd.R_base ho0) hb); have n1_ := Aside0.mk (Kd.S_mono (Kd.S_told (Kd.S_told (Kd.S_old (by (with_reducible repeat (first | apply Kd.S_alloc | apply Kd.S_drewN | apply Kd.S_drew)); exact HO234.out) hb) (Kd.R_base ho0)) (Kd.S_base ho1)) (fun _ h_ => h_.1)); have n2_ := Aside0.mk (Kd.R_lower (Kd.R_new' ho0 (Kd.R_lt (by (with_reducible repeat (first | apply Kd.R_alloc | apply Kd.R_drewN | apply Kd.R_drew)); exact HO231.out))) (below_size (by repeat (first | (with_reducible first | exact HB.out | apply below_alloc | apply pw_below_drewN | apply below_drew1) | exact HB.out)))); have n3_ := Aside0.mk (Kd.S_lower (Kd.S_new' (Kd.S_new' ho1 (Kd.R_lt (by (with_reducible repeat (first | apply Kd.R_alloc | apply Kd.R_drewN | apply Kd.R_drew)); exact HO231.out))) (Kd.S_lt (by (with_reducible repeat (first | apply Kd.S_alloc | apply Kd.S_drewN | apply Kd.S_drew)); exact HO234.out))) (below_size (by repeat (first | (with_reducible first | exact HB.out | apply below_alloc | apply pw_below_drewN | apply below_drew1) | exact HB.out)))); have n4_ := Aside0.mk (below_step (by repeat (first | (with_reducible first | exact HB.out | apply below_alloc | apply pw_below_drewN | apply below_drew1) | exact HB.out)) hb); clear HO231; clear HO234; clear HB; have HO231 := n0_; have HO234 := n1_; have HO238 := n2_; have HO240 := n3_; have HB := n4_; clear n0_ n1_ n2_ n3_ n4_; (try clear hb); (try clear hb2); (try clear hk); (try clear hi); (try clear ho0); (try clear ho1)) | (go_at_call 19; (with_reducible refine (sennitlaw05_cut.calls k _ _ l0 _ _ l1 t241 _ ?side1 ?side2 ?side3 ?side4 A9.out).mono ?_); (case side1 => repeat (first | exact (Kd.C_below HR0.out HB.out) | (with_reducible refine Kd.C_alloc ?_ _) | (with_reducible refine Kd.C_drewN ?_ _) | (with_reducible refine Kd.C_drew ?_))); (case side2 => exact HC0.out); (case side3 => repeat (first | exact (Kd.C_below HR1.out HB.out) | (with_reducible refine Kd.C_alloc ?_ _) | (with_reducible refine Kd.C_drewN ?_ _) | (with_reducible refine Kd.C_drew ?_))); (case side4 => exact HC1.out); rintro e w18 ⟨v242, rfl, ho0, hb⟩; have n0_ := Aside0.mk (Kd.R_below (by (with_reducible repeat (first | apply Kd.R_alloc | apply Kd.R_drewN | apply Kd.R_drew)); exact HO231.out) hb); have n1_ := Aside0.mk (Kd.S_below (by (with_reducible repeat (first | apply Kd.S_alloc | apply Kd.S_drewN | apply Kd.S_drew)); exact HO234.out) hb); have n2_ := Aside0.mk (Kd.R_below (by (with_reducible repeat (first | apply Kd.R_alloc | apply Kd.R_drewN | apply Kd.R_drew)); exact HO238.out) hb); have n3_ := Aside0.mk (Kd.S_below (by (with_reducible repeat (first | apply Kd.S_alloc | apply Kd.S_drewN | apply Kd.S_drew)); exact HO240.out) hb); have n4_ := Aside0.mk (Kd.S_lower ho0 (below_size (by repeat (first | (with_reducible first | exact HB.out | apply below_alloc | apply pw_below_drewN | apply below_drew1) | exact HB.out)))); have n5_ := Aside0.mk (below_step (by repeat (first | (with_reducible first | exact HB.out | apply below_alloc | apply pw_below_drewN | apply below_drew1) | exact HB.out)) hb); clear HO231; clear HO234; clear HO238; clear HO240; clear HB; have HO231 := n0_; have HO234 := n1_; have HO238 := n2_; have HO240 := n3_; have HO243 := n4_; have HB := n5_; clear n0_ n1_ n2_ n3_ n4_ n5_; (try clear hb); (try clear hb2); (try clear hk); (try clear hi); (try clear ho0); obtain ⟨Ao19, co19, eo19⟩ := Kd.S_slice HO243.out; subst eo19; obtain ⟨Ao20, co20, eo20⟩ := Kd.R_slice HO238.out; subst eo20) | (go_at_call 18; (with_reducible refine (sennitlaw05_covers.calls k _ _ t241 (l0.length : Int) _ _ t235 true _ ?side1 ?side2 ?side3 ?side4 A10.out).mono ?_); (case side1 => repeat (first | exact (Kd.S_reads' HO243.out).2.2 | (with_reducible refine Kd.C_alloc ?_ _) | (with_reducible refine Kd.C_drewN ?_ _) | (with_reducible refine Kd.C_drew ?_))); (case side2 => exact (Kd.S_reads' HO243.out).2.1); (case side3 => repeat (first | exact (Kd.R_reads' HO238.out).2.2 | (with_reducible refine Kd.C_alloc ?_ _) | (with_reducible refine Kd.C_drewN ?_ _) | (with_reducible refine Kd.C_drew ?_))); (case side4 => exact (Kd.R_reads' HO238.out).2.1); rintro e w21 ⟨rfl, hb⟩; have n0_ := Aside0.mk (Kd.R_below (by (with_reducible repeat (first | apply Kd.R_alloc | apply Kd.R_drewN | apply Kd.R_drew)); exact HO231.out) hb); have n1_ := Aside0.mk (Kd.S_below (by (with_reducible repeat (first | apply Kd.S_alloc | apply Kd.S_drewN | apply Kd.S_drew)); exact HO234.out) hb); have n2_ := Aside0.mk (Kd.R_below (by (with_reducible repeat (first | apply Kd.R_alloc | apply Kd.R_drewN | apply Kd.R_drew)); exact HO238.out) hb); have n3_ := Aside0.mk (Kd.S_below (by (with_reducible repeat (first | apply Kd.S_alloc | apply Kd.S_drewN | apply Kd.S_drew)); exact HO240.out) hb); have n4_ := Aside0.mk (Kd.S_below (by (with_reducible repeat (first | apply Kd.S_alloc | apply Kd.S_drewN | apply Kd.S_drew)); exact HO243.out) hb); have n5_ := Aside0.mk (below_step (by repeat (first | (with_reducible first | exact HB.out | apply below_alloc | apply pw_below_drewN | apply below_drew1) | exact HB.out)) hb); clear HO231; clear HO234; clear HO238; clear HO240; clear HO243; clear HB; have HO231 := n0_; have HO234 := n1_; have HO238 := n2_; have HO240 := n3_; have HO243 := n4_; have HB := n5_; clear n0_ n1_ n2_ n3_ n4_ n5_; (try clear hb); (try clear hb2); (try clear hk); (try clear hi)))
      repeat (go_quiet (first | (go_at_call 14; (with_reducible refine (sennitlaw05_awake.calls k  t227 _ A3.out).mono ?_); rintro e w12 ⟨rfl, hb⟩; have n0_ := Aside0.mk (below_step (by repeat (first | (with_reducible first | exact HB.out | apply below_alloc | apply pw_below_drewN | apply below_drew1) | exact HB.out)) hb); clear HB; have HB := n0_; clear n0_; (try clear hb); (try clear hb2); (try clear hk); (try clear hi)) | (go_at_call 15; (with_reducible refine (sennitref05_Few.calls k _ _ l0 _ _ l1 true _ ?side1 ?side2 ?side3 ?side4 A4.out).mono ?_); (case side1 => repeat (first | exact (Kd.C_below HR0.out HB.out) | (with_reducible refine Kd.C_alloc ?_ _) | (with_reducible refine Kd.C_drewN ?_ _) | (with_reducible refine Kd.C_drew ?_))); (case side2 => exact HC0.out); (case side3 => repeat (first | exact (Kd.C_below HR1.out HB.out) | (with_reducible refine Kd.C_alloc ?_ _) | (with_reducible refine Kd.C_drewN ?_ _) | (with_reducible refine Kd.C_drew ?_))); (case side4 => exact HC1.out); rintro e w' ⟨rfl, ⟨nd, rfl⟩⟩; (try first | exact ⟨rfl, _, World.drewN_drewN _ _ _⟩ | exact ⟨rfl, _, Eq.trans (World.drewN_drewN _ _ _) (congrArg (World.drewN _) (Nat.add_assoc _ _ _))⟩)) | (go_at_call 20; (with_reducible refine (sennitref03_Ints.calls k _ _ l0 t229 _ ?side1 ?side2 A6.out).mono ?_); (case side1 => repeat (first | exact (Kd.C_below HR0.out (by repeat (first | (with_reducible first | exact HB.out | apply below_alloc | apply pw_below_drewN | apply below_drew1) | exact HB.out))) | (with_reducible refine Kd.C_alloc ?_ _) | (with_reducible refine Kd.C_drewN ?_ _) | (with_reducible refine Kd.C_drew ?_))); (case side2 => exact HC0.out); rintro e w13 ⟨v230, rfl, ho0, hb⟩; have n0_ := Aside0.mk (Kd.R_lower ho0 (below_size (by repeat (first | (with_reducible first | exact HB.out | apply below_alloc | apply pw_below_drewN | apply below_drew1) | exact HB.out)))); have n1_ := Aside0.mk (below_step (by repeat (first | (with_reducible first | exact HB.out | apply below_alloc | apply pw_below_drewN | apply below_drew1) | exact HB.out)) hb); clear HB; have HO231 := n0_; have HB := n1_; clear n0_ n1_; (try clear hb); (try clear hb2); (try clear hk); (try clear hi); (try clear ho0)) | (go_at_call 17; (with_reducible refine (sennitref05_Lists.calls k _ _ l1 t232 _ ?side1 ?side2 A7.out).mono ?_); (case side1 => repeat (first | exact (Kd.C_below HR1.out HB.out) | (with_reducible refine Kd.C_alloc ?_ _) | (with_reducible refine Kd.C_drewN ?_ _) | (with_reducible refine Kd.C_drew ?_))); (case side2 => exact HC1.out); rintro e w14 ⟨v233, rfl, ho0, hb⟩; have n0_ := Aside0.mk (Kd.R_below (by (with_reducible repeat (first | apply Kd.R_alloc | apply Kd.R_drewN | apply Kd.R_drew)); exact HO231.out) hb); have n1_ := Aside0.mk (Kd.S_lower (Kd.S_new' ho0 (Kd.R_lt (by (with_reducible repeat (first | apply Kd.R_alloc | apply Kd.R_drewN | apply Kd.R_drew)); exact HO231.out))) (below_size (by repeat (first | (with_reducible first | exact HB.out | apply below_alloc | apply pw_below_drewN | apply below_drew1) | exact HB.out)))); have n2_ := Aside0.mk (below_step (by repeat (first | (with_reducible first | exact HB.out | apply below_alloc | apply pw_below_drewN | apply below_drew1) | exact HB.out)) hb); clear HO231; clear HB; have HO231 := n0_; have HO234 := n1_; have HB := n2_; clear n0_ n1_ n2_; (try clear hb); (try clear hb2); (try clear hk); (try clear hi); (try clear ho0); obtain ⟨Ao15, co15, eo15⟩ := Kd.R_slice HO231.out; subst eo15; obtain ⟨Ao16, co16, eo16⟩ := Kd.S_slice HO234.out; subst eo16) | (go_at_call 16; (with_reducible refine (sennitref05_Matches.calls k _ _ t229 _ _ t232 t235 t236 _ ?side1 ?side2 ?side3 ?side4 A8.out).mono ?_); (case side1 => repeat (first | exact (Kd.R_reads' HO231.out).2.2 | (with_reducible refine Kd.C_alloc ?_ _) | (with_reducible refine Kd.C_drewN ?_ _) | (with_reducible refine Kd.C_drew ?_))); (case side2 => exact (Kd.R_reads' HO231.out).2.1); (case side3 => repeat (first | exact (Kd.S_reads' HO234.out).2.2 | (with_reducible refine Kd.C_alloc ?_ _) | (with_reducible refine Kd.C_drewN ?_ _) | (with_reducible refine Kd.C_drew ?_))); (case side4 => exact (Kd.S_reads' HO234.out).2.1); rintro e w17 ⟨v237, v239, rfl, ho0, ho1, hb⟩; have n0_ := Aside0.mk (Kd.R_elder' (by (with_reducible repeat (first | apply Kd.R_alloc | apply Kd.R_drewN | apply Kd.R_drew)); exact HO231.out) (Kd.R_base ho0) hb); have n1_ := Aside0.mk (Kd.S_mono (Kd.S_told (Kd.S_told (Kd.S_old (by (with_reducible repeat (first | apply Kd.S_alloc | apply Kd.S_drewN | apply Kd.S_drew)); exact HO234.out) hb) (Kd.R_base ho0)) (Kd.S_base ho1)) (fun _ h_ => h_.1)); have n2_ := Aside0.mk (Kd.R_lower (Kd.R_new' ho0 (Kd.R_lt (by (with_reducible repeat (first | apply Kd.R_alloc | apply Kd.R_drewN | apply Kd.R_drew)); exact HO231.out))) (below_size (by repeat (first | (with_reducible first | exact HB.out | apply below_alloc | apply pw_below_drewN | apply below_drew1) | exact HB.out)))); have n3_ := Aside0.mk (Kd.S_lower (Kd.S_new' (Kd.S_new' ho1 (Kd.R_lt (by (with_reducible repeat (first | apply Kd.R_alloc | apply Kd.R_drewN | apply Kd.R_drew)); exact HO231.out))) (Kd.S_lt (by (with_reducible repeat (first | apply Kd.S_alloc | apply Kd.S_drewN | apply Kd.S_drew)); exact HO234.out))) (below_size (by repeat (first | (with_reducible first | exact HB.out | apply below_alloc | apply pw_below_drewN | apply below_drew1) | exact HB.out)))); have n4_ := Aside0.mk (below_step (by repeat (first | (with_reducible first | exact HB.out | apply below_alloc | apply pw_below_drewN | apply below_drew1) | exact HB.out)) hb); clear HO231; clear HO234; clear HB; have HO231 := n0_; have HO234 := n1_; have HO238 := n2_; have HO240 := n3_; have HB := n4_; clear n0_ n1_ n2_ n3_ n4_; (try clear hb); (try clear hb2); (try clear hk); (try clear hi); (try clear ho0); (try clear ho1)) | (go_at_call 19; (with_reducible refine (sennitlaw05_cut.calls k _ _ l0 _ _ l1 t241 _ ?side1 ?side2 ?side3 ?side4 A9.out).mono ?_); (case side1 => repeat (first | exact (Kd.C_below HR0.out HB.out) | (with_reducible refine Kd.C_alloc ?_ _) | (with_reducible refine Kd.C_drewN ?_ _) | (with_reducible refine Kd.C_drew ?_))); (case side2 => exact HC0.out); (case side3 => repeat (first | exact (Kd.C_below HR1.out HB.out) | (with_reducible refine Kd.C_alloc ?_ _) | (with_reducible refine Kd.C_drewN ?_ _) | (with_reducible refine Kd.C_drew ?_))); (case side4 => exact HC1.out); rintro e w18 ⟨v242, rfl, ho0, hb⟩; have n0_ := Aside0.mk (Kd.R_below (by (with_reducible repeat (first | apply Kd.R_alloc | apply Kd.R_drewN | apply Kd.R_drew)); exact HO231.out) hb); have n1_ := Aside0.mk (Kd.S_below (by (with_reducible repeat (first | apply Kd.S_alloc | apply Kd.S_drewN | apply Kd.S_drew)); exact HO234.out) hb); have n2_ := Aside0.mk (Kd.R_below (by (with_reducible repeat (first | apply Kd.R_alloc | apply Kd.R_drewN | apply Kd.R_drew)); exact HO238.out) hb); have n3_ := Aside0.mk (Kd.S_below (by (with_reducible repeat (first | apply Kd.S_alloc | apply Kd.S_drewN | apply Kd.S_drew)); exact HO240.out) hb); have n4_ := Aside0.mk (Kd.S_lower ho0 (below_size (by repeat (first | (with_reducible first | exact HB.out | apply below_alloc | apply pw_below_drewN | apply below_drew1) | exact HB.out)))); have n5_ := Aside0.mk (below_step (by repeat (first | (with_reducible first | exact HB.out | apply below_alloc | apply pw_below_drewN | apply below_drew1) | exact HB.out)) hb); clear HO231; clear HO234; clear HO238; clear HO240; clear HB; have HO231 := n0_; have HO234 := n1_; have HO238 := n2_; have HO240 := n3_; have HO243 := n4_; have HB := n5_; clear n0_ n1_ n2_ n3_ n4_ n5_; (try clear hb); (try clear hb2); (try clear hk); (try clear hi); (try clear ho0); obtain ⟨Ao19, co19, eo19⟩ := Kd.S_slice HO243.out; subst eo19; obtain ⟨Ao20, co20, eo20⟩ := Kd.R_slice HO238.out; subst eo20) | (go_at_call 18; (with_reducible refine (sennitlaw05_covers.calls k _ _ t241 (l0.length : Int) _ _ t235 true _ ?side1 ?side2 ?side3 ?side4 A10.out).mono ?_); (case side1 => repeat (first | exact (Kd.S_reads' HO243.out).2.2 | (with_reducible refine Kd.C_alloc ?_ _) | (with_reducible refine Kd.C_drewN ?_ _) | (with_reducible refine Kd.C_drew ?_))); (case side2 => exact (Kd.S_reads' HO243.out).2.1); (case side3 => repeat (first | exact (Kd.R_reads' HO238.out).2.2 | (with_reducible refine Kd.C_alloc ?_ _) | (with_reducible refine Kd.C_drewN ?_ _) | (with_reducible refine Kd.C_drew ?_))); (case side4 => exact (Kd.R_reads' HO238.out).2.1); rintro e w21 ⟨rfl, hb⟩; have n0_ := Aside0.mk (Kd.R_below (by (with_reducible repeat (first | apply Kd.R_alloc | apply Kd.R_drewN | apply Kd.R_drew)); exact HO231.out) hb); have n1_ := Aside0.mk (Kd.S_below (by (with_reducible repeat (first | apply Kd.S_alloc | apply Kd.S_drewN | apply Kd.S_drew)); exact HO234.out) hb); have n2_ := Aside0.mk (Kd.R_below (by (with_reducible repeat (first | apply Kd.R_alloc | apply Kd.R_drewN | apply Kd.R_drew)); exact HO238.out) hb); have n3_ := Aside0.mk (Kd.S_below (by (with_reducible repeat (first | apply Kd.S_alloc | apply Kd.S_drewN | apply Kd.S_drew)); exact HO240.out) hb); have n4_ := Aside0.mk (Kd.S_below (by (with_reducible repeat (first | apply Kd.S_alloc | apply Kd.S_drewN | apply Kd.S_drew)); exact HO243.out) hb); have n5_ := Aside0.mk (below_step (by repeat (first | (with_reducible first | exact HB.out | apply below_alloc | apply pw_below_drewN | apply below_drew1) | exact HB.out)) hb); clear HO231; clear HO234; clear HO238; clear HO240; clear HO243; clear HB; have HO231 := n0_; have HO234 := n1_; have HO238 := n2_; have HO240 := n3_; have HO243 := n4_; have HB := n5_; clear n0_ n1_ n2_ n3_ n4_ n5_; (try clear hb); (try clear hb2); (try clear hk); (try clear hi))); try go_wp2_with (first | (go_at_call 14; (with_reducible refine (sennitlaw05_awake.calls k  t227 _ A3.out).mono ?_); rintro e w12 ⟨rfl, hb⟩; have n0_ := Aside0.mk (below_step (by repeat (first | (with_reducible first | exact HB.out | apply below_alloc | apply pw_below_drewN | apply below_drew1) | exact HB.out)) hb); clear HB; have HB := n0_; clear n0_; (try clear hb); (try clear hb2); (try clear hk); (try clear hi)) | (go_at_call 15; (with_reducible refine (sennitref05_Few.calls k _ _ l0 _ _ l1 true _ ?side1 ?side2 ?side3 ?side4 A4.out).mono ?_); (case side1 => repeat (first | exact (Kd.C_below HR0.out HB.out) | (with_reducible refine Kd.C_alloc ?_ _) | (with_reducible refine Kd.C_drewN ?_ _) | (with_reducible refine Kd.C_drew ?_))); (case side2 => exact HC0.out); (case side3 => repeat (first | exact (Kd.C_below HR1.out HB.out) | (with_reducible refine Kd.C_alloc ?_ _) | (with_reducible refine Kd.C_drewN ?_ _) | (with_reducible refine Kd.C_drew ?_))); (case side4 => exact HC1.out); rintro e w' ⟨rfl, ⟨nd, rfl⟩⟩; (try first | exact ⟨rfl, _, World.drewN_drewN _ _ _⟩ | exact ⟨rfl, _, Eq.trans (World.drewN_drewN _ _ _) (congrArg (World.drewN _) (Nat.add_assoc _ _ _))⟩)) | (go_at_call 20; (with_reducible refine (sennitref03_Ints.calls k _ _ l0 t229 _ ?side1 ?side2 A6.out).mono ?_); (case side1 => repeat (first | exact (Kd.C_below HR0.out (by repeat (first | (with_reducible first | exact HB.out | apply below_alloc | apply pw_below_drewN | apply below_drew1) | exact HB.out))) | (with_reducible refine Kd.C_alloc ?_ _) | (with_reducible refine Kd.C_drewN ?_ _) | (with_reducible refine Kd.C_drew ?_))); (case side2 => exact HC0.out); rintro e w13 ⟨v230, rfl, ho0, hb⟩; have n0_ := Aside0.mk (Kd.R_lower ho0 (below_size (by repeat (first | (with_reducible first | exact HB.out | apply below_alloc | apply pw_below_drewN | apply below_drew1) | exact HB.out)))); have n1_ := Aside0.mk (below_step (by repeat (first | (with_reducible first | exact HB.out | apply below_alloc | apply pw_below_drewN | apply below_drew1) | exact HB.out)) hb); clear HB; have HO231 := n0_; have HB := n1_; clear n0_ n1_; (try clear hb); (try clear hb2); (try clear hk); (try clear hi); (try clear ho0)) | (go_at_call 17; (with_reducible refine (sennitref05_Lists.calls k _ _ l1 t232 _ ?side1 ?side2 A7.out).mono ?_); (case side1 => repeat (first | exact (Kd.C_below HR1.out HB.out) | (with_reducible refine Kd.C_alloc ?_ _) | (with_reducible refine Kd.C_drewN ?_ _) | (with_reducible refine Kd.C_drew ?_))); (case side2 => exact HC1.out); rintro e w14 ⟨v233, rfl, ho0, hb⟩; have n0_ := Aside0.mk (Kd.R_below (by (with_reducible repeat (first | apply Kd.R_alloc | apply Kd.R_drewN | apply Kd.R_drew)); exact HO231.out) hb); have n1_ := Aside0.mk (Kd.S_lower (Kd.S_new' ho0 (Kd.R_lt (by (with_reducible repeat (first | apply Kd.R_alloc | apply Kd.R_drewN | apply Kd.R_drew)); exact HO231.out))) (below_size (by repeat (first | (with_reducible first | exact HB.out | apply below_alloc | apply pw_below_drewN | apply below_drew1) | exact HB.out)))); have n2_ := Aside0.mk (below_step (by repeat (first | (with_reducible first | exact HB.out | apply below_alloc | apply pw_below_drewN | apply below_drew1) | exact HB.out)) hb); clear HO231; clear HB; have HO231 := n0_; have HO234 := n1_; have HB := n2_; clear n0_ n1_ n2_; (try clear hb); (try clear hb2); (try clear hk); (try clear hi); (try clear ho0); obtain ⟨Ao15, co15, eo15⟩ := Kd.R_slice HO231.out; subst eo15; obtain ⟨Ao16, co16, eo16⟩ := Kd.S_slice HO234.out; subst eo16) | (go_at_call 16; (with_reducible refine (sennitref05_Matches.calls k _ _ t229 _ _ t232 t235 t236 _ ?side1 ?side2 ?side3 ?side4 A8.out).mono ?_); (case side1 => repeat (first | exact (Kd.R_reads' HO231.out).2.2 | (with_reducible refine Kd.C_alloc ?_ _) | (with_reducible refine Kd.C_drewN ?_ _) | (with_reducible refine Kd.C_drew ?_))); (case side2 => exact (Kd.R_reads' HO231.out).2.1); (case side3 => repeat (first | exact (Kd.S_reads' HO234.out).2.2 | (with_reducible refine Kd.C_alloc ?_ _) | (with_reducible refine Kd.C_drewN ?_ _) | (with_reducible refine Kd.C_drew ?_))); (case side4 => exact (Kd.S_reads' HO234.out).2.1); rintro e w17 ⟨v237, v239, rfl, ho0, ho1, hb⟩; have n0_ := Aside0.mk (Kd.R_elder' (by (with_reducible repeat (first | apply Kd.R_alloc | apply Kd.R_drewN | apply Kd.R_drew)); exact HO231.out) (Kd.R_base ho0) hb); have n1_ := Aside0.mk (Kd.S_mono (Kd.S_told (Kd.S_told (Kd.S_old (by (with_reducible repeat (first | apply Kd.S_alloc | apply Kd.S_drewN | apply Kd.S_drew)); exact HO234.out) hb) (Kd.R_base ho0)) (Kd.S_base ho1)) (fun _ h_ => h_.1)); have n2_ := Aside0.mk (Kd.R_lower (Kd.R_new' ho0 (Kd.R_lt (by (with_reducible repeat (first | apply Kd.R_alloc | apply Kd.R_drewN | apply Kd.R_drew)); exact HO231.out))) (below_size (by repeat (first | (with_reducible first | exact HB.out | apply below_alloc | apply pw_below_drewN | apply below_drew1) | exact HB.out)))); have n3_ := Aside0.mk (Kd.S_lower (Kd.S_new' (Kd.S_new' ho1 (Kd.R_lt (by (with_reducible repeat (first | apply Kd.R_alloc | apply Kd.R_drewN | apply Kd.R_drew)); exact HO231.out))) (Kd.S_lt (by (with_reducible repeat (first | apply Kd.S_alloc | apply Kd.S_drewN | apply Kd.S_drew)); exact HO234.out))) (below_size (by repeat (first | (with_reducible first | exact HB.out | apply below_alloc | apply pw_below_drewN | apply below_drew1) | exact HB.out)))); have n4_ := Aside0.mk (below_step (by repeat (first | (with_reducible first | exact HB.out | apply below_alloc | apply pw_below_drewN | apply below_drew1) | exact HB.out)) hb); clear HO231; clear HO234; clear HB; have HO231 := n0_; have HO234 := n1_; have HO238 := n2_; have HO240 := n3_; have HB := n4_; clear n0_ n1_ n2_ n3_ n4_; (try clear hb); (try clear hb2); (try clear hk); (try clear hi); (try clear ho0); (try clear ho1)) | (go_at_call 19; (with_reducible refine (sennitlaw05_cut.calls k _ _ l0 _ _ l1 t241 _ ?side1 ?side2 ?side3 ?side4 A9.out).mono ?_); (case side1 => repeat (first | exact (Kd.C_below HR0.out HB.out) | (with_reducible refine Kd.C_alloc ?_ _) | (with_reducible refine Kd.C_drewN ?_ _) | (with_reducible refine Kd.C_drew ?_))); (case side2 => exact HC0.out); (case side3 => repeat (first | exact (Kd.C_below HR1.out HB.out) | (with_reducible refine Kd.C_alloc ?_ _) | (with_reducible refine Kd.C_drewN ?_ _) | (with_reducible refine Kd.C_drew ?_))); (case side4 => exact HC1.out); rintro e w18 ⟨v242, rfl, ho0, hb⟩; have n0_ := Aside0.mk (Kd.R_below (by (with_reducible repeat (first | apply Kd.R_alloc | apply Kd.R_drewN | apply Kd.R_drew)); exact HO231.out) hb); have n1_ := Aside0.mk (Kd.S_below (by (with_reducible repeat (first | apply Kd.S_alloc | apply Kd.S_drewN | apply Kd.S_drew)); exact HO234.out) hb); have n2_ := Aside0.mk (Kd.R_below (by (with_reducible repeat (first | apply Kd.R_alloc | apply Kd.R_drewN | apply Kd.R_drew)); exact HO238.out) hb); have n3_ := Aside0.mk (Kd.S_below (by (with_reducible repeat (first | apply Kd.S_alloc | apply Kd.S_drewN | apply Kd.S_drew)); exact HO240.out) hb); have n4_ := Aside0.mk (Kd.S_lower ho0 (below_size (by repeat (first | (with_reducible first | exact HB.out | apply below_alloc | apply pw_below_drewN | apply below_drew1) | exact HB.out)))); have n5_ := Aside0.mk (below_step (by repeat (first | (with_reducible first | exact HB.out | apply below_alloc | apply pw_below_drewN | apply below_drew1) | exact HB.out)) hb); clear HO231; clear HO234; clear HO238; clear HO240; clear HB; have HO231 := n0_; have HO234 := n1_; have HO238 := n2_; have HO240 := n3_; have HO243 := n4_; have HB := n5_; clear n0_ n1_ n2_ n3_ n4_ n5_; (try clear hb); (try clear hb2); (try clear hk); (try clear hi); (try clear ho0); obtain ⟨Ao19, co19, eo19⟩ := Kd.S_slice HO243.out; subst eo19; obtain ⟨Ao20, co20, eo20⟩ := Kd.R_slice HO238.out; subst eo20) | (go_at_call 18; (with_reducible refine (sennitlaw05_covers.calls k _ _ t241 (l0.length : Int) _ _ t235 true _ ?side1 ?side2 ?side3 ?side4 A10.out).mono ?_); (case side1 => repeat (first | exact (Kd.S_reads' HO243.out).2.2 | (with_reducible refine Kd.C_alloc ?_ _) | (with_reducible refine Kd.C_drewN ?_ _) | (with_reducible refine Kd.C_drew ?_))); (case side2 => exact (Kd.S_reads' HO243.out).2.1); (case side3 => repeat (first | exact (Kd.R_reads' HO238.out).2.2 | (with_reducible refine Kd.C_alloc ?_ _) | (with_reducible refine Kd.C_drewN ?_ _) | (with_reducible refine Kd.C_drew ?_))); (case side4 => exact (Kd.R_reads' HO238.out).2.1); rintro e w21 ⟨rfl, hb⟩; have n0_ := Aside0.mk (Kd.R_below (by (with_reducible repeat (first | apply Kd.R_alloc | apply Kd.R_drewN | apply Kd.R_drew)); exact HO231.out) hb); have n1_ := Aside0.mk (Kd.S_below (by (with_reducible repeat (first | apply Kd.S_alloc | apply Kd.S_drewN | apply Kd.S_drew)); exact HO234.out) hb); have n2_ := Aside0.mk (Kd.R_below (by (with_reducible repeat (first | apply Kd.R_alloc | apply Kd.R_drewN | apply Kd.R_drew)); exact HO238.out) hb); have n3_ := Aside0.mk (Kd.S_below (by (with_reducible repeat (first | apply Kd.S_alloc | apply Kd.S_drewN | apply Kd.S_drew)); exact HO240.out) hb); have n4_ := Aside0.mk (Kd.S_below (by (with_reducible repeat (first | apply Kd.S_alloc | apply Kd.S_drewN | apply Kd.S_drew)); exact HO243.out) hb); have n5_ := Aside0.mk (below_step (by repeat (first | (with_reducible first | exact HB.out | apply below_alloc | apply pw_below_drewN | apply below_drew1) | exact HB.out)) hb); clear HO231; clear HO234; clear HO238; clear HO240; clear HO243; clear HB; have HO231 := n0_; have HO234 := n1_; have HO238 := n2_; have HO240 := n3_; have HO243 := n4_; have HB := n5_; clear n0_ n1_ n2_ n3_ n4_ n5_; (try clear hb); (try clear hb2); (try clear hk); (try clear hi))))
      go_loopg [9] k (fun kq v9 w' => ∃ (x9_1 : Int), v9 = .int .i64 x9_1 ∧ Aside0 (sennitlaw05_AlignStable.l0 kq l0 l1 t227 t236 t241 x9_1 = some r) ∧ Aside0 (kq ≤ k) ∧ Aside0 (Kd.S (Kd.slice 3 (Kd.int .i64)) 26 w' w.heap.size (fun _ => True) v239 t236) ∧ Aside0 (Kd.S k39 39 w' w.heap.size (fun _ => True) (.slice Ao19 t241.length co19) t241) ∧ Aside0 (Below w.heap.size w w'))
      case atStart => exact ⟨(0), (by first | rfl | (simp; done) | (simp [*]; done)), H', ⟨Nat.le_refl _⟩, ⟨by (with_reducible repeat (first | apply Kd.S_alloc | apply Kd.S_drewN | apply Kd.S_drew)); exact Kd.S_mono HO240.out (fun _ hk => trivial)⟩, ⟨by (with_reducible repeat (first | apply Kd.S_alloc | apply Kd.S_drewN | apply Kd.S_drew)); exact HO243.out⟩, ⟨by repeat (first | (with_reducible first | exact HB.out | apply below_alloc | apply pw_below_drewN | apply below_drew1) | exact HB.out)⟩⟩
      case round =>
        clear H'
        try clear c1
        try clear p2
        try clear c4
        try clear c5
        try clear c11
        obtain ⟨x9_1, rfl, HA, HK1, HO_7, HO_8, HB⟩ := hrel
        cases gk with
        | zero => exact absurd HA.out (by simp [sennitlaw05_AlignStable.l0])
        | succ k1 =>
          have H := HA.out
          clear HA
          simp only [sennitlaw05_AlignStable.l0] at H
          by_cases c22 : x9_1 < (t241.length : Int)
          · rw [if_pos c22] at H
            have c22b0 : decide (x9_1 < (t241.length : Int)) = true := decide_eq_true c22
            clear c22
            by_cases c23 : 0 ≤ x9_1
            · rw [if_pos c23] at H
              have c23b0 : decide (0 ≤ x9_1) = true := decide_eq_true c23
              clear c23
              have H' := Aside0.mk H
              clear H
              have p245 : 0 ≤ (x9_1 : Int) := of_decide_eq_true (by first | (with_reducible assumption) | assumption)
              have q245 : x9_1 < (t241.length : Int) := of_decide_eq_true (by first | (with_reducible assumption) | assumption)
              obtain ⟨ad245, A245_3, c245_3, e245, hx245_0, hx245_1, hx245_2, hx245_3, hl245_3, hi245_3⟩ := at_T39 (Kd.S_reads' HO_8.out).2.2 x9_1 p245 q245
              cases e245
              obtain ⟨ce245, hce245, hMe245, hcc245⟩ := Kd.S_get HO_8.out z39 x9_1 p245 (by first | exact q245 | exact of_decide_eq_true (by first | (with_reducible assumption) | assumption) | (have e_ := (Kd.S_reads' HO_8.out).1; omega))
              obtain ⟨ve245_3, rfl, ge245_3⟩ := k39_openM hMe245
              have hv245_3 := hcc245 3 _ rfl
              rw [add_field _ _ 3 (by omega)] at hv245_3
              replace hv245_3 := Option.some.inj (hv245_3.symm.trans hx245_3)
              rw [hv245_3] at ge245_3
              have HL245_3 := Aside0.mk (show Kd.R k36 36 _ _ _ _ ((rd_T39 t241 x9_1).f2) from ge245_3)
              clear hv245_3 ge245_3
              clear hcc245 hce245
              have HR245_3 := Aside0.mk hi245_3
              have HC245_3 := Aside0.mk hl245_3
              clear hi245_3 hl245_3
              replace p245 := eq_true p245
              replace q245 := eq_true q245
              go_wp2
              repeat (go_quiet (fail); try go_wp2)
              go_loopg [10] k1 (fun kq v10 w' => ∃ (x10_2 : Int), v10 = .int .i64 x10_2 ∧ Aside0 (sennitlaw05_AlignStable.l1 kq l0 l1 t227 t236 t241 x9_1 x10_2 = some r) ∧ Aside0 (kq ≤ k1) ∧ Aside0 (Kd.S (Kd.slice 3 (Kd.int .i64)) 26 w' w.heap.size (fun _ => True) v239 t236) ∧ Aside0 (Kd.S k39 39 w' w.heap.size (fun _ => True) (.slice (some ad245) t241.length co19) t241) ∧ Aside0 (Kd.C k36 w' A245_3 ((rd_T39 t241 x9_1).f2).length ((rd_T39 t241 x9_1).f2)) ∧ Aside0 (Below w.heap.size w w'))
              case atStart => exact ⟨((rd_T39 t241 x9_1).f1.f0), (by first | rfl | (simp; done) | (simp [*]; done)), H', ⟨Nat.le_refl _⟩, ⟨by (with_reducible repeat (first | apply Kd.S_alloc | apply Kd.S_drewN | apply Kd.S_drew)); exact HO_7.out⟩, ⟨by (with_reducible repeat (first | apply Kd.S_alloc | apply Kd.S_drewN | apply Kd.S_drew)); exact HO_8.out⟩, ⟨by repeat (first | (with_reducible exact HR245_3.out) | (with_reducible refine Kd.C_alloc ?_ _) | (with_reducible refine Kd.C_drewN ?_ _) | (with_reducible refine Kd.C_drew ?_) | exact HR245_3.out)⟩, ⟨by repeat (first | (with_reducible first | exact HB.out | apply below_alloc | apply pw_below_drewN | apply below_drew1) | exact HB.out)⟩⟩
              case round =>
                clear H'
                try clear c1
                try clear c2
                try clear p2
                try clear q2
                try clear hx2
                try clear c4
                try clear c5
                try clear c11
                try clear c22
                try clear c22b0
                try clear c23
                try clear c23b0
                try clear hx245_0
                try clear hx245_1
                try clear hx245_2
                try clear hx245_3
                try clear p2
                try clear p245
                try clear q245
                obtain ⟨x10_2, rfl, HA, HK2, HO_7, HO_8, HR245_3, HB⟩ := hrel
                cases gk with
                | zero => exact absurd HA.out (by simp [sennitlaw05_AlignStable.l1])
                | succ k2 =>
                  have H := HA.out
                  clear HA
                  simp only [sennitlaw05_AlignStable.l1] at H
                  by_cases c24 : 0 ≤ x9_1
                  · rw [if_pos c24] at H
                    have c24b0 : decide (0 ≤ x9_1) = true := decide_eq_true c24
                    clear c24
                    by_cases c25 : x9_1 < (t241.length : Int)
                    · rw [if_pos c25] at H
                      have c25b0 : decide (x9_1 < (t241.length : Int)) = true := decide_eq_true c25
                      clear c25
                      by_cases c26 : x10_2 < ((rd_T39 t241 x9_1).f1.f1)
                      · rw [if_pos c26] at H
                        have c26b0 : decide (x10_2 < ((rd_T39 t241 x9_1).f1.f1)) = true := decide_eq_true c26
                        clear c26
                        have H' := Aside0.mk H
                        clear H
                        have p246 : 0 ≤ (x9_1 : Int) := of_decide_eq_true (by first | (with_reducible assumption) | assumption)
                        have q246 : x9_1 < (t241.length : Int) := of_decide_eq_true (by first | (with_reducible assumption) | assumption)
                        obtain ⟨ad246, A246_3, c246_3, e246, hx246_0, hx246_1, hx246_2, hx246_3, hl246_3, hi246_3⟩ := at_T39 (Kd.S_reads' HO_8.out).2.2 x9_1 p246 q246
                        obtain rfl : ad245 = ad246 := (by injection e246)
                        obtain ⟨ce246, hce246, hMe246, hcc246⟩ := Kd.S_get HO_8.out z39 x9_1 p246 (by first | exact q246 | exact of_decide_eq_true (by first | (with_reducible assumption) | assumption) | (have e_ := (Kd.S_reads' HO_8.out).1; omega))
                        obtain ⟨ve246_3, rfl, ge246_3⟩ := k39_openM hMe246
                        have hv246_3 := hcc246 3 _ rfl
                        rw [add_field _ _ 3 (by omega)] at hv246_3
                        replace hv246_3 := Option.some.inj (hv246_3.symm.trans hx246_3)
                        rw [hv246_3] at ge246_3
                        have HL246_3 := Aside0.mk (show Kd.R k36 36 _ _ _ _ ((rd_T39 t241 x9_1).f2) from ge246_3)
                        clear hv246_3 ge246_3
                        clear hcc246 hce246
                        have HR246_3 := Aside0.mk hi246_3
                        have HC246_3 := Aside0.mk hl246_3
                        clear hi246_3 hl246_3
                        replace p246 := eq_true p246
                        replace q246 := eq_true q246
                        go_wp2
                        repeat (go_quiet (fail); try go_wp2)
                        go_loopg [11, 12] k2 (fun kq v11 v12 w' => ∃ (x11_3 : Bool) (x12_3 : Int), v11 = .bool x11_3 ∧ v12 = .int .i64 x12_3 ∧ Aside0 (sennitlaw05_AlignStable.l2 kq l0 l1 t227 t236 t241 x9_1 x10_2 x11_3 x12_3 = some r) ∧ Aside0 (kq ≤ k2) ∧ Aside0 (Kd.S (Kd.slice 3 (Kd.int .i64)) 26 w' w.heap.size (fun _ => True) v239 t236) ∧ Aside0 (Kd.S k39 39 w' w.heap.size (fun _ => True) (.slice (some ad245) t241.length co19) t241) ∧ Aside0 (Kd.C k36 w' A245_3 ((rd_T39 t241 x9_1).f2).length ((rd_T39 t241 x9_1).f2)) ∧ Aside0 (Kd.C k36 w' A246_3 ((rd_T39 t241 x9_1).f2).length ((rd_T39 t241 x9_1).f2)) ∧ Aside0 (Below w.heap.size w w'))
                        case atStart => exact ⟨(true), (0), (by first | rfl | (simp; done) | (simp [*]; done)), (by first | rfl | (simp; done) | (simp [*]; done)), H', ⟨Nat.le_refl _⟩, ⟨by (with_reducible repeat (first | apply Kd.S_alloc | apply Kd.S_drewN | apply Kd.S_drew)); exact HO_7.out⟩, ⟨by (with_reducible repeat (first | apply Kd.S_alloc | apply Kd.S_drewN | apply Kd.S_drew)); exact HO_8.out⟩, ⟨by repeat (first | (with_reducible exact HR245_3.out) | (with_reducible refine Kd.C_alloc ?_ _) | (with_reducible refine Kd.C_drewN ?_ _) | (with_reducible refine Kd.C_drew ?_) | exact HR245_3.out)⟩, ⟨by repeat (first | (with_reducible exact HR246_3.out) | (with_reducible refine Kd.C_alloc ?_ _) | (with_reducible refine Kd.C_drewN ?_ _) | (with_reducible refine Kd.C_drew ?_) | exact HR246_3.out)⟩, ⟨by repeat (first | (with_reducible first | exact HB.out | apply below_alloc | apply pw_below_drewN | apply below_drew1) | exact HB.out)⟩⟩
                        case round =>
                          clear H'
                          try clear c1
                          try clear c2
                          try clear p2
                          try clear q2
                          try clear hx2
                          try clear c4
                          try clear c5
                          try clear c11
                          try clear c22
                          try clear c22b0
                          try clear c23
                          try clear c23b0
                          try clear c24
                          try clear c24b0
                          try clear p24
                          try clear q24
                          try clear hx24
                          try clear c25
                          try clear c25b0
                          try clear c26
                          try clear c26b0
                          try clear hx245_0
                          try clear hx245_1
                          try clear hx245_2
                          try clear hx245_3
                          try clear hx246_0
                          try clear hx246_1
                          try clear hx246_2
                          try clear hx246_3
                          try clear p2
                          try clear p245
                          try clear p246
                          try clear q2
                          try clear q245
                          try clear q246
                          obtain ⟨x11_3, x12_3, rfl, rfl, HA, HK3, HO_7, HO_8, HR245_3, HR246_3, HB⟩ := hrel
                          cases gk with
                          | zero => exact absurd HA.out (by simp [sennitlaw05_AlignStable.l2])
                          | succ k3 =>
                            have H := HA.out
                            clear HA
                            simp only [sennitlaw05_AlignStable.l2] at H
                            by_cases c27 : x12_3 < (l1.length : Int)
                            · rw [if_pos c27] at H
                              have c27b0 : decide (x12_3 < (l1.length : Int)) = true := decide_eq_true c27
                              clear c27
                              by_cases c28 : 0 ≤ x9_1
                              · rw [if_pos c28] at H
                                have c28b0 : decide (0 ≤ x9_1) = true := decide_eq_true c28
                                clear c28
                                by_cases c29 : x9_1 < (t241.length : Int)
                                · rw [if_pos c29] at H
                                  have c29b0 : decide (x9_1 < (t241.length : Int)) = true := decide_eq_true c29
                                  clear c29
                                  by_cases c30 : 0 ≤ x12_3
                                  · rw [if_pos c30] at H
                                    have c30b0 : decide (0 ≤ x12_3) = true := decide_eq_true c30
                                    clear c30
                                    by_cases c31 : x12_3 < (((rd_T39 t241 x9_1).f2).length : Int)
                                    · rw [if_pos c31] at H
                                      have c31b0 : decide (x12_3 < (((rd_T39 t241 x9_1).f2).length : Int)) = true := decide_eq_true c31
                                      clear c31
                                      by_cases c32 : x11_3 = true
                                      · subst c32
                                        have H1 : (if x12_3 < (t236.length : Int) then (if 0 ≤ x10_2 then (if x10_2 < ((rd_L1 t236 x12_3).length : Int) then (if (rd_T39 t241 x9_1).f0 = true then (if (rd (rd_L1 t236 x12_3) x10_2) = (wrap64 ((wrap64 (((rd_T36 ((rd_T39 t241 x9_1).f2) x12_3).f0) + x10_2)) - ((rd_T39 t241 x9_1).f1.f0))) then (if 0 ≤ (wrap64 ((wrap64 (((rd_T36 ((rd_T39 t241 x9_1).f2) x12_3).f0) + x10_2)) - ((rd_T39 t241 x9_1).f1.f0))) then (if (wrap64 ((wrap64 (((rd_T36 ((rd_T39 t241 x9_1).f2) x12_3).f0) + x10_2)) - ((rd_T39 t241 x9_1).f1.f0))) < ((rd_L9 l1 x12_3).length : Int) then (if x10_2 < (l0.length : Int) then (if (rd (rd_L9 l1 x12_3) (wrap64 ((wrap64 (((rd_T36 ((rd_T39 t241 x9_1).f2) x12_3).f0) + x10_2)) - ((rd_T39 t241 x9_1).f1.f0)))) = (rd l0 x10_2) then (sennitlaw05_AlignStable.l2 k3 l0 l1 t227 t236 t241 x9_1 x10_2 (decide ((rd (rd_L1 t236 x12_3) x10_2) ≥ 0)) (wrap64 (x12_3 + 1))) else (some false)) else (none)) else (none)) else (none)) else (some false)) else (sennitlaw05_AlignStable.l2 k3 l0 l1 t227 t236 t241 x9_1 x10_2 (decide ((rd (rd_L1 t236 x12_3) x10_2) ≥ 0)) (wrap64 (x12_3 + 1)))) else (none)) else (none)) else (none)) = some r := by rw [if_pos rfl] at H; exact H
                                        clear H
                                        have H := H1
                                        clear H1
                                        by_cases c33 : x12_3 < (t236.length : Int)
                                        · rw [if_pos c33] at H
                                          have c33b0 : decide (x12_3 < (t236.length : Int)) = true := decide_eq_true c33
                                          clear c33
                                          by_cases c34 : 0 ≤ x10_2
                                          · rw [if_pos c34] at H
                                            have c34b0 : decide (0 ≤ x10_2) = true := decide_eq_true c34
                                            clear c34
                                            by_cases c35 : x10_2 < ((rd_L1 t236 x12_3).length : Int)
                                            · rw [if_pos c35] at H
                                              have c35b0 : decide (x10_2 < ((rd_L1 t236 x12_3).length : Int)) = true := decide_eq_true c35
                                              clear c35
                                              obtain ⟨bq36, hbq36⟩ : ∃ b_ : Bool, b_ = ((rd_T39 t241 x9_1).f0) := ⟨_, rfl⟩
                                              replace H : (if bq36 = true then (if (rd (rd_L1 t236 x12_3) x10_2) = (wrap64 ((wrap64 (((rd_T36 ((rd_T39 t241 x9_1).f2) x12_3).f0) + x10_2)) - ((rd_T39 t241 x9_1).f1.f0))) then (if 0 ≤ (wrap64 ((wrap64 (((rd_T36 ((rd_T39 t241 x9_1).f2) x12_3).f0) + x10_2)) - ((rd_T39 t241 x9_1).f1.f0))) then (if (wrap64 ((wrap64 (((rd_T36 ((rd_T39 t241 x9_1).f2) x12_3).f0) + x10_2)) - ((rd_T39 t241 x9_1).f1.f0))) < ((rd_L9 l1 x12_3).length : Int) then (if x10_2 < (l0.length : Int) then (if (rd (rd_L9 l1 x12_3) (wrap64 ((wrap64 (((rd_T36 ((rd_T39 t241 x9_1).f2) x12_3).f0) + x10_2)) - ((rd_T39 t241 x9_1).f1.f0)))) = (rd l0 x10_2) then (sennitlaw05_AlignStable.l2 k3 l0 l1 t227 t236 t241 x9_1 x10_2 (decide ((rd (rd_L1 t236 x12_3) x10_2) ≥ 0)) (wrap64 (x12_3 + 1))) else (some false)) else (none)) else (none)) else (none)) else (some false)) else (sennitlaw05_AlignStable.l2 k3 l0 l1 t227 t236 t241 x9_1 x10_2 (decide ((rd (rd_L1 t236 x12_3) x10_2) ≥ 0)) (wrap64 (x12_3 + 1)))) = some r := by rw [← hbq36] at H; exact H
                                              have Nbq36 := Aside0.mk hbq36
                                              clear hbq36
                                              by_cases c37 : bq36 = true
                                              · subst c37
                                                have H1 : (if (rd (rd_L1 t236 x12_3) x10_2) = (wrap64 ((wrap64 (((rd_T36 ((rd_T39 t241 x9_1).f2) x12_3).f0) + x10_2)) - ((rd_T39 t241 x9_1).f1.f0))) then (if 0 ≤ (wrap64 ((wrap64 (((rd_T36 ((rd_T39 t241 x9_1).f2) x12_3).f0) + x10_2)) - ((rd_T39 t241 x9_1).f1.f0))) then (if (wrap64 ((wrap64 (((rd_T36 ((rd_T39 t241 x9_1).f2) x12_3).f0) + x10_2)) - ((rd_T39 t241 x9_1).f1.f0))) < ((rd_L9 l1 x12_3).length : Int) then (if x10_2 < (l0.length : Int) then (if (rd (rd_L9 l1 x12_3) (wrap64 ((wrap64 (((rd_T36 ((rd_T39 t241 x9_1).f2) x12_3).f0) + x10_2)) - ((rd_T39 t241 x9_1).f1.f0)))) = (rd l0 x10_2) then (sennitlaw05_AlignStable.l2 k3 l0 l1 t227 t236 t241 x9_1 x10_2 (decide ((rd (rd_L1 t236 x12_3) x10_2) ≥ 0)) (wrap64 (x12_3 + 1))) else (some false)) else (none)) else (none)) else (none)) else (some false)) = some r := by rw [if_pos rfl] at H; exact H
                                                clear H
                                                have H := H1
                                                clear H1
                                                by_cases c38 : (rd (rd_L1 t236 x12_3) x10_2) = (wrap64 ((wrap64 (((rd_T36 ((rd_T39 t241 x9_1).f2) x12_3).f0) + x10_2)) - ((rd_T39 t241 x9_1).f1.f0)))
                                                · rw [if_pos c38] at H
                                                  have c38b0 : ((rd (rd_L1 t236 x12_3) x10_2) == (wrap64 ((wrap64 (((rd_T36 ((rd_T39 t241 x9_1).f2) x12_3).f0) + x10_2)) - ((rd_T39 t241 x9_1).f1.f0)))) = true := beq_iff_eq.mpr c38
                                                  have c38b1 : ((rd (rd_L1 t236 x12_3) x10_2) != (wrap64 ((wrap64 (((rd_T36 ((rd_T39 t241 x9_1).f2) x12_3).f0) + x10_2)) - ((rd_T39 t241 x9_1).f1.f0)))) = false := bne_eq_false_iff_eq.mpr c38
                                                  clear c38
                                                  obtain ⟨ji39, hji39⟩ : ∃ j_ : Int, (wrap64 ((wrap64 (((rd_T36 ((rd_T39 t241 x9_1).f2) x12_3).f0) + x10_2)) - ((rd_T39 t241 x9_1).f1.f0))) = j_ := ⟨_, rfl⟩
                                                  replace H : (if 0 ≤ (ji39) then (if (ji39) < ((rd_L9 l1 x12_3).length : Int) then (if x10_2 < (l0.length : Int) then (if (rd (rd_L9 l1 x12_3) (ji39)) = (rd l0 x10_2) then (sennitlaw05_AlignStable.l2 k3 l0 l1 t227 t236 t241 x9_1 x10_2 (decide ((rd (rd_L1 t236 x12_3) x10_2) ≥ 0)) (wrap64 (x12_3 + 1))) else (some false)) else (none)) else (none)) else (none)) = some r := by first | (rw [hji39] at H; exact H) | (simp only [hji39] at H ⊢; exact H)
                                                  (try rw [hji39] at c38b0)
                                                  (try rw [hji39] at c38b1)
                                                  have hji39w : (IntKind.i64.wrap ((wrap64 (((rd_T36 ((rd_T39 t241 x9_1).f2) x12_3).f0) + x10_2)) - ((rd_T39 t241 x9_1).f1.f0))) = ji39 := (i64_w _).trans hji39
                                                  by_cases c40 : 0 ≤ (ji39)
                                                  · rw [if_pos c40] at H
                                                    have c40b0 : decide (0 ≤ (ji39)) = true := decide_eq_true c40
                                                    clear c40
                                                    by_cases c41 : (ji39) < ((rd_L9 l1 x12_3).length : Int)
                                                    · rw [if_pos c41] at H
                                                      have c41b0 : decide ((ji39) < ((rd_L9 l1 x12_3).length : Int)) = true := decide_eq_true c41
                                                      clear c41
                                                      by_cases c42 : x10_2 < (l0.length : Int)
                                                      · rw [if_pos c42] at H
                                                        have c42b0 : decide (x10_2 < (l0.length : Int)) = true := decide_eq_true c42
                                                        clear c42
                                                        by_cases c43 : (rd (rd_L9 l1 x12_3) (ji39)) = (rd l0 x10_2)
                                                        · rw [if_pos c43] at H
                                                          have c43b0 : ((rd (rd_L9 l1 x12_3) (ji39)) == (rd l0 x10_2)) = true := beq_iff_eq.mpr c43
                                                          have c43b1 : ((rd (rd_L9 l1 x12_3) (ji39)) != (rd l0 x10_2)) = false := bne_eq_false_iff_eq.mpr c43
                                                          clear c43
                                                          have H' := Aside0.mk H
                                                          clear H
                                                          have p247 : 0 ≤ (x9_1 : Int) := of_decide_eq_true (by first | (with_reducible assumption) | assumption)
                                                          have q247 : x9_1 < (t241.length : Int) := of_decide_eq_true (by first | (with_reducible assumption) | assumption)
                                                          obtain ⟨ad247, A247_3, c247_3, e247, hx247_0, hx247_1, hx247_2, hx247_3, hl247_3, hi247_3⟩ := at_T39 (Kd.S_reads' HO_8.out).2.2 x9_1 p247 q247
                                                          (try rw [← Nbq36.out] at hx247_0)
                                                          obtain rfl : ad245 = ad247 := (by injection e247)
                                                          obtain ⟨ce247, hce247, hMe247, hcc247⟩ := Kd.S_get HO_8.out z39 x9_1 p247 (by first | exact q247 | exact of_decide_eq_true (by first | (with_reducible assumption) | assumption) | (have e_ := (Kd.S_reads' HO_8.out).1; omega))
                                                          obtain ⟨ve247_3, rfl, ge247_3⟩ := k39_openM hMe247
                                                          have hv247_3 := hcc247 3 _ rfl
                                                          rw [add_field _ _ 3 (by omega)] at hv247_3
                                                          replace hv247_3 := Option.some.inj (hv247_3.symm.trans hx247_3)
                                                          rw [hv247_3] at ge247_3
                                                          have HL247_3 := Aside0.mk (show Kd.R k36 36 _ _ _ _ ((rd_T39 t241 x9_1).f2) from ge247_3)
                                                          clear hv247_3 ge247_3
                                                          clear hcc247 hce247
                                                          have HR247_3 := Aside0.mk hi247_3
                                                          have HC247_3 := Aside0.mk hl247_3
                                                          clear hi247_3 hl247_3
                                                          replace p247 := eq_true p247
                                                          replace q247 := eq_true q247
                                                          have p248 : 0 ≤ (x12_3 : Int) := of_decide_eq_true (by first | (with_reducible assumption) | assumption)
                                                          have q248 : x12_3 < (((rd_T39 t241 x9_1).f2).length : Int) := of_decide_eq_true (by first | (with_reducible assumption) | assumption)
                                                          obtain ⟨ad248, e248, hx248_0, hx248_1⟩ := at_T36 (by repeat (first | (with_reducible exact HR247_3.out) | (with_reducible refine Kd.C_alloc ?_ _) | (with_reducible refine Kd.C_drewN ?_ _) | (with_reducible refine Kd.C_drew ?_) | exact HR247_3.out)) x12_3 p248 q248
                                                          cases e248
                                                          replace p248 := eq_true p248
                                                          replace q248 := eq_true q248
                                                          have p249 : 0 ≤ (x9_1 : Int) := of_decide_eq_true (by first | (with_reducible assumption) | assumption)
                                                          have q249 : x9_1 < (t241.length : Int) := of_decide_eq_true (by first | (with_reducible assumption) | assumption)
                                                          obtain ⟨ad249, A249_3, c249_3, e249, hx249_0, hx249_1, hx249_2, hx249_3, hl249_3, hi249_3⟩ := at_T39 (Kd.S_reads' HO_8.out).2.2 x9_1 p249 q249
                                                          (try rw [← Nbq36.out] at hx249_0)
                                                          obtain rfl : ad245 = ad249 := (by injection e249)
                                                          obtain ⟨ce249, hce249, hMe249, hcc249⟩ := Kd.S_get HO_8.out z39 x9_1 p249 (by first | exact q249 | exact of_decide_eq_true (by first | (with_reducible assumption) | assumption) | (have e_ := (Kd.S_reads' HO_8.out).1; omega))
                                                          obtain ⟨ve249_3, rfl, ge249_3⟩ := k39_openM hMe249
                                                          have hv249_3 := hcc249 3 _ rfl
                                                          rw [add_field _ _ 3 (by omega)] at hv249_3
                                                          replace hv249_3 := Option.some.inj (hv249_3.symm.trans hx249_3)
                                                          rw [hv249_3] at ge249_3
                                                          have HL249_3 := Aside0.mk (show Kd.R k36 36 _ _ _ _ ((rd_T39 t241 x9_1).f2) from ge249_3)
                                                          clear hv249_3 ge249_3
                                                          clear hcc249 hce249
                                                          have HR249_3 := Aside0.mk hi249_3
                                                          have HC249_3 := Aside0.mk hl249_3
                                                          clear hi249_3 hl249_3
                                                          replace p249 := eq_true p249
                                                          replace q249 := eq_true q249
                                                          have ea_ := Option.some.inj (hx247_3.symm.trans hx249_3)
                                                          injection ea_ with ea_ en_ ec_
                                                          subst ea_
                                                          subst ec_
                                                          clear en_
                                                          obtain ⟨Ao44, co44, eo44⟩ := Kd.S_slice HO_7.out
                                                          subst eo44
                                                          have p250 : 0 ≤ (x12_3 : Int) := of_decide_eq_true (by first | (with_reducible assumption) | assumption)
                                                          have q250 : x12_3 < (t236.length : Int) := of_decide_eq_true (by first | (with_reducible assumption) | assumption)
                                                          obtain ⟨ad250, A250_0, c250_0, e250, hx250_0, hl250_0, hi250_0⟩ := at_L1 (Kd.S_reads' HO_7.out).2.2 x12_3 p250 q250
                                                          cases e250
                                                          obtain ⟨ce250, hce250, hMe250, hcc250⟩ := Kd.S_get HO_7.out [] x12_3 p250 (by first | exact q250 | exact of_decide_eq_true (by first | (with_reducible assumption) | assumption) | (have e_ := (Kd.S_reads' HO_7.out).1; omega))
                                                          obtain ⟨ve250_0, rfl, ge250_0⟩ := hMe250
                                                          have hv250_0 := hcc250 0 _ rfl
                                                          rw [Nat.add_zero, show ((Kd.slice 3 (Kd.int .i64))).sz = 1 from rfl, Nat.mul_one] at hv250_0
                                                          replace hv250_0 := Option.some.inj (hv250_0.symm.trans hx250_0)
                                                          rw [hv250_0] at ge250_0
                                                          have HL250_0 := Aside0.mk (show Kd.R (Kd.int .i64) 3 _ _ _ _ (rd_L1 t236 x12_3) from ge250_0)
                                                          clear hv250_0 ge250_0
                                                          clear hcc250 hce250
                                                          have HR250_0 := Aside0.mk hi250_0
                                                          have HC250_0 := Aside0.mk hl250_0
                                                          clear hi250_0 hl250_0
                                                          replace p250 := eq_true p250
                                                          replace q250 := eq_true q250
                                                          have p251 : 0 ≤ (x10_2 : Int) := of_decide_eq_true (by first | (with_reducible assumption) | assumption)
                                                          have q251 : x10_2 < ((rd_L1 t236 x12_3).length : Int) := of_decide_eq_true (by first | (with_reducible assumption) | assumption)
                                                          obtain ⟨ad251, e251, hx251_0⟩ := Kd.at_int (by repeat (first | (with_reducible exact HR250_0.out) | (with_reducible refine Kd.C_alloc ?_ _) | (with_reducible refine Kd.C_drewN ?_ _) | (with_reducible refine Kd.C_drew ?_) | exact HR250_0.out)) x10_2 p251 q251
                                                          cases e251
                                                          replace p251 := eq_true p251
                                                          replace q251 := eq_true q251
                                                          have p252 : 0 ≤ (x9_1 : Int) := of_decide_eq_true (by first | (with_reducible assumption) | assumption)
                                                          have q252 : x9_1 < (t241.length : Int) := of_decide_eq_true (by first | (with_reducible assumption) | assumption)
                                                          obtain ⟨ad252, A252_3, c252_3, e252, hx252_0, hx252_1, hx252_2, hx252_3, hl252_3, hi252_3⟩ := at_T39 (Kd.S_reads' HO_8.out).2.2 x9_1 p252 q252
                                                          (try rw [← Nbq36.out] at hx252_0)
                                                          obtain rfl : ad245 = ad252 := (by injection e252)
                                                          obtain ⟨ce252, hce252, hMe252, hcc252⟩ := Kd.S_get HO_8.out z39 x9_1 p252 (by first | exact q252 | exact of_decide_eq_true (by first | (with_reducible assumption) | assumption) | (have e_ := (Kd.S_reads' HO_8.out).1; omega))
                                                          obtain ⟨ve252_3, rfl, ge252_3⟩ := k39_openM hMe252
                                                          have hv252_3 := hcc252 3 _ rfl
                                                          rw [add_field _ _ 3 (by omega)] at hv252_3
                                                          replace hv252_3 := Option.some.inj (hv252_3.symm.trans hx252_3)
                                                          rw [hv252_3] at ge252_3
                                                          have HL252_3 := Aside0.mk (show Kd.R k36 36 _ _ _ _ ((rd_T39 t241 x9_1).f2) from ge252_3)
                                                          clear hv252_3 ge252_3
                                                          clear hcc252 hce252
                                                          have HR252_3 := Aside0.mk hi252_3
                                                          have HC252_3 := Aside0.mk hl252_3
                                                          clear hi252_3 hl252_3
                                                          replace p252 := eq_true p252
                                                          replace q252 := eq_true q252
                                                          have ea_ := Option.some.inj (hx247_3.symm.trans hx252_3)
                                                          injection ea_ with ea_ en_ ec_
                                                          subst ea_
                                                          subst ec_
                                                          clear en_
                                                          have p253 : 0 ≤ (x12_3 : Int) := of_decide_eq_true (by first | (with_reducible assumption) | assumption)
                                                          have q253 : x12_3 < (t236.length : Int) := of_decide_eq_true (by first | (with_reducible assumption) | assumption)
                                                          obtain ⟨ad253, A253_0, c253_0, e253, hx253_0, hl253_0, hi253_0⟩ := at_L1 (Kd.S_reads' HO_7.out).2.2 x12_3 p253 q253
                                                          obtain rfl : ad250 = ad253 := (by injection e253)
                                                          obtain ⟨ce253, hce253, hMe253, hcc253⟩ := Kd.S_get HO_7.out [] x12_3 p253 (by first | exact q253 | exact of_decide_eq_true (by first | (with_reducible assumption) | assumption) | (have e_ := (Kd.S_reads' HO_7.out).1; omega))
                                                          obtain ⟨ve253_0, rfl, ge253_0⟩ := hMe253
                                                          have hv253_0 := hcc253 0 _ rfl
                                                          rw [Nat.add_zero, show ((Kd.slice 3 (Kd.int .i64))).sz = 1 from rfl, Nat.mul_one] at hv253_0
                                                          replace hv253_0 := Option.some.inj (hv253_0.symm.trans hx253_0)
                                                          rw [hv253_0] at ge253_0
                                                          have HL253_0 := Aside0.mk (show Kd.R (Kd.int .i64) 3 _ _ _ _ (rd_L1 t236 x12_3) from ge253_0)
                                                          clear hv253_0 ge253_0
                                                          clear hcc253 hce253
                                                          have HR253_0 := Aside0.mk hi253_0
                                                          have HC253_0 := Aside0.mk hl253_0
                                                          clear hi253_0 hl253_0
                                                          replace p253 := eq_true p253
                                                          replace q253 := eq_true q253
                                                          have ea_ := Option.some.inj (hx250_0.symm.trans hx253_0)
                                                          injection ea_ with ea_ en_ ec_
                                                          subst ea_
                                                          subst ec_
                                                          clear en_
                                                          have p254 : 0 ≤ (x10_2 : Int) := of_decide_eq_true (by first | (with_reducible assumption) | assumption)
                                                          have q254 : x10_2 < ((rd_L1 t236 x12_3).length : Int) := of_decide_eq_true (by first | (with_reducible assumption) | assumption)
                                                          obtain ⟨ad254, e254, hx254_0⟩ := Kd.at_int (by repeat (first | (with_reducible exact HR253_0.out) | (with_reducible refine Kd.C_alloc ?_ _) | (with_reducible refine Kd.C_drewN ?_ _) | (with_reducible refine Kd.C_drew ?_) | exact HR253_0.out)) x10_2 p254 q254
                                                          cases e254
                                                          replace p254 := eq_true p254
                                                          replace q254 := eq_true q254
                                                          have p255 : 0 ≤ (x12_3 : Int) := of_decide_eq_true (by first | (with_reducible assumption) | assumption)
                                                          have q255 : x12_3 < (l1.length : Int) := of_decide_eq_true (by first | (with_reducible assumption) | assumption)
                                                          obtain ⟨ad255, A255_0, c255_0, e255, hx255_0, hl255_0, hi255_0⟩ := at_L9 HR1.out x12_3 p255 q255
                                                          cases e255
                                                          replace hx255_0 := (HB.out.cell (World.block_lt_of_cell? w _ hx255_0)).trans hx255_0
                                                          have HR255_0 := Aside0.mk hi255_0
                                                          have HC255_0 := Aside0.mk hl255_0
                                                          clear hi255_0 hl255_0
                                                          replace p255 := eq_true p255
                                                          replace q255 := eq_true q255
                                                          have p256 : 0 ≤ ((ji39) : Int) := of_decide_eq_true (by first | (with_reducible assumption) | assumption)
                                                          have q256 : (ji39) < ((rd_L9 l1 x12_3).length : Int) := of_decide_eq_true (by first | (with_reducible assumption) | assumption)
                                                          obtain ⟨ad256, e256, hx256_0⟩ := Kd.at_int HR255_0.out (ji39) p256 q256
                                                          cases e256
                                                          replace hx256_0 := (HB.out.cell (World.block_lt_of_cell? w _ hx256_0)).trans hx256_0
                                                          replace p256 := eq_true p256
                                                          replace q256 := eq_true q256
                                                          have p257 : 0 ≤ (x10_2 : Int) := of_decide_eq_true (by first | (with_reducible assumption) | assumption)
                                                          have q257 : x10_2 < (l0.length : Int) := of_decide_eq_true (by first | (with_reducible assumption) | assumption)
                                                          obtain ⟨ad257, e257, hx257_0⟩ := Kd.at_int HR0.out x10_2 p257 q257
                                                          cases e257
                                                          replace hx257_0 := (HB.out.cell (World.block_lt_of_cell? w _ hx257_0)).trans hx257_0
                                                          replace p257 := eq_true p257
                                                          replace q257 := eq_true q257
                                                          go_wp2
                                                          repeat (go_quiet (fail); try go_wp2)
                                                          go_roundg k3
                                                          case measure => have := HK1.out; have := HK2.out; have := HK3.out; omega
                                                          case rel => exact ⟨(decide ((rd (rd_L1 t236 x12_3) x10_2) ≥ 0)), (wrap64 (x12_3 + 1)), (by first | rfl | (simp; done) | (simp [*]; done)), (by first | rfl | (simp; done) | (simp [*]; done)), H', ⟨by have := HK1.out; have := HK2.out; have := HK3.out; omega⟩, ⟨by (with_reducible repeat (first | apply Kd.S_alloc | apply Kd.S_drewN | apply Kd.S_drew)); exact HO_7.out⟩, ⟨by (with_reducible repeat (first | apply Kd.S_alloc | apply Kd.S_drewN | apply Kd.S_drew)); exact HO_8.out⟩, ⟨by repeat (first | (with_reducible exact HR245_3.out) | (with_reducible refine Kd.C_alloc ?_ _) | (with_reducible refine Kd.C_drewN ?_ _) | (with_reducible refine Kd.C_drew ?_) | exact HR245_3.out)⟩, ⟨by repeat (first | (with_reducible exact HR246_3.out) | (with_reducible refine Kd.C_alloc ?_ _) | (with_reducible refine Kd.C_drewN ?_ _) | (with_reducible refine Kd.C_drew ?_) | exact HR246_3.out)⟩, ⟨by repeat (first | (with_reducible first | exact HB.out | apply below_alloc | apply pw_below_drewN | apply below_drew1) | exact HB.out)⟩⟩
                                                        · rw [if_neg c43] at H
                                                          have c43b0 : ((rd (rd_L9 l1 x12_3) (ji39)) == (rd l0 x10_2)) = false := beq_eq_false_iff_ne.mpr c43
                                                          have c43b1 : ((rd (rd_L9 l1 x12_3) (ji39)) != (rd l0 x10_2)) = true := bne_iff_ne.mpr c43
                                                          obtain rfl := Option.some.inj H
                                                          have p247 : 0 ≤ (x9_1 : Int) := of_decide_eq_true (by first | (with_reducible assumption) | assumption)
                                                          have q247 : x9_1 < (t241.length : Int) := of_decide_eq_true (by first | (with_reducible assumption) | assumption)
                                                          obtain ⟨ad247, A247_3, c247_3, e247, hx247_0, hx247_1, hx247_2, hx247_3, hl247_3, hi247_3⟩ := at_T39 (Kd.S_reads' HO_8.out).2.2 x9_1 p247 q247
                                                          (try rw [← Nbq36.out] at hx247_0)
                                                          obtain rfl : ad245 = ad247 := (by injection e247)
                                                          obtain ⟨ce247, hce247, hMe247, hcc247⟩ := Kd.S_get HO_8.out z39 x9_1 p247 (by first | exact q247 | exact of_decide_eq_true (by first | (with_reducible assumption) | assumption) | (have e_ := (Kd.S_reads' HO_8.out).1; omega))
                                                          obtain ⟨ve247_3, rfl, ge247_3⟩ := k39_openM hMe247
                                                          have hv247_3 := hcc247 3 _ rfl
                                                          rw [add_field _ _ 3 (by omega)] at hv247_3
                                                          replace hv247_3 := Option.some.inj (hv247_3.symm.trans hx247_3)
                                                          rw [hv247_3] at ge247_3
                                                          have HL247_3 := Aside0.mk (show Kd.R k36 36 _ _ _ _ ((rd_T39 t241 x9_1).f2) from ge247_3)
                                                          clear hv247_3 ge247_3
                                                          clear hcc247 hce247
                                                          have HR247_3 := Aside0.mk hi247_3
                                                          have HC247_3 := Aside0.mk hl247_3
                                                          clear hi247_3 hl247_3
                                                          replace p247 := eq_true p247
                                                          replace q247 := eq_true q247
                                                          have p248 : 0 ≤ (x12_3 : Int) := of_decide_eq_true (by first | (with_reducible assumption) | assumption)
                                                          have q248 : x12_3 < (((rd_T39 t241 x9_1).f2).length : Int) := of_decide_eq_true (by first | (with_reducible assumption) | assumption)
                                                          obtain ⟨ad248, e248, hx248_0, hx248_1⟩ := at_T36 (by repeat (first | (with_reducible exact HR247_3.out) | (with_reducible refine Kd.C_alloc ?_ _) | (with_reducible refine Kd.C_drewN ?_ _) | (with_reducible refine Kd.C_drew ?_) | exact HR247_3.out)) x12_3 p248 q248
                                                          cases e248
                                                          replace p248 := eq_true p248
                                                          replace q248 := eq_true q248
                                                          have p249 : 0 ≤ (x9_1 : Int) := of_decide_eq_true (by first | (with_reducible assumption) | assumption)
                                                          have q249 : x9_1 < (t241.length : Int) := of_decide_eq_true (by first | (with_reducible assumption) | assumption)
                                                          obtain ⟨ad249, A249_3, c249_3, e249, hx249_0, hx249_1, hx249_2, hx249_3, hl249_3, hi249_3⟩ := at_T39 (Kd.S_reads' HO_8.out).2.2 x9_1 p249 q249
                                                          (try rw [← Nbq36.out] at hx249_0)
                                                          obtain rfl : ad245 = ad249 := (by injection e249)
                                                          obtain ⟨ce249, hce249, hMe249, hcc249⟩ := Kd.S_get HO_8.out z39 x9_1 p249 (by first | exact q249 | exact of_decide_eq_true (by first | (with_reducible assumption) | assumption) | (have e_ := (Kd.S_reads' HO_8.out).1; omega))
                                                          obtain ⟨ve249_3, rfl, ge249_3⟩ := k39_openM hMe249
                                                          have hv249_3 := hcc249 3 _ rfl
                                                          rw [add_field _ _ 3 (by omega)] at hv249_3
                                                          replace hv249_3 := Option.some.inj (hv249_3.symm.trans hx249_3)
                                                          rw [hv249_3] at ge249_3
                                                          have HL249_3 := Aside0.mk (show Kd.R k36 36 _ _ _ _ ((rd_T39 t241 x9_1).f2) from ge249_3)
                                                          clear hv249_3 ge249_3
                                                          clear hcc249 hce249
                                                          have HR249_3 := Aside0.mk hi249_3
                                                          have HC249_3 := Aside0.mk hl249_3
                                                          clear hi249_3 hl249_3
                                                          replace p249 := eq_true p249
                                                          replace q249 := eq_true q249
                                                          have ea_ := Option.some.inj (hx247_3.symm.trans hx249_3)
                                                          injection ea_ with ea_ en_ ec_
                                                          subst ea_
                                                          subst ec_
                                                          clear en_
                                                          obtain ⟨Ao45, co45, eo45⟩ := Kd.S_slice HO_7.out
                                                          subst eo45
                                                          have p250 : 0 ≤ (x12_3 : Int) := of_decide_eq_true (by first | (with_reducible assumption) | assumption)
                                                          have q250 : x12_3 < (t236.length : Int) := of_decide_eq_true (by first | (with_reducible assumption) | assumption)
                                                          obtain ⟨ad250, A250_0, c250_0, e250, hx250_0, hl250_0, hi250_0⟩ := at_L1 (Kd.S_reads' HO_7.out).2.2 x12_3 p250 q250
                                                          cases e250
                                                          obtain ⟨ce250, hce250, hMe250, hcc250⟩ := Kd.S_get HO_7.out [] x12_3 p250 (by first | exact q250 | exact of_decide_eq_true (by first | (with_reducible assumption) | assumption) | (have e_ := (Kd.S_reads' HO_7.out).1; omega))
                                                          obtain ⟨ve250_0, rfl, ge250_0⟩ := hMe250
                                                          have hv250_0 := hcc250 0 _ rfl
                                                          rw [Nat.add_zero, show ((Kd.slice 3 (Kd.int .i64))).sz = 1 from rfl, Nat.mul_one] at hv250_0
                                                          replace hv250_0 := Option.some.inj (hv250_0.symm.trans hx250_0)
                                                          rw [hv250_0] at ge250_0
                                                          have HL250_0 := Aside0.mk (show Kd.R (Kd.int .i64) 3 _ _ _ _ (rd_L1 t236 x12_3) from ge250_0)
                                                          clear hv250_0 ge250_0
                                                          clear hcc250 hce250
                                                          have HR250_0 := Aside0.mk hi250_0
                                                          have HC250_0 := Aside0.mk hl250_0
                                                          clear hi250_0 hl250_0
                                                          replace p250 := eq_true p250
                                                          replace q250 := eq_true q250
                                                          have p251 : 0 ≤ (x10_2 : Int) := of_decide_eq_true (by first | (with_reducible assumption) | assumption)
                                                          have q251 : x10_2 < ((rd_L1 t236 x12_3).length : Int) := of_decide_eq_true (by first | (with_reducible assumption) | assumption)
                                                          obtain ⟨ad251, e251, hx251_0⟩ := Kd.at_int (by repeat (first | (with_reducible exact HR250_0.out) | (with_reducible refine Kd.C_alloc ?_ _) | (with_reducible refine Kd.C_drewN ?_ _) | (with_reducible refine Kd.C_drew ?_) | exact HR250_0.out)) x10_2 p251 q251
                                                          cases e251
                                                          replace p251 := eq_true p251
                                                          replace q251 := eq_true q251
                                                          have p252 : 0 ≤ (x9_1 : Int) := of_decide_eq_true (by first | (with_reducible assumption) | assumption)
                                                          have q252 : x9_1 < (t241.length : Int) := of_decide_eq_true (by first | (with_reducible assumption) | assumption)
                                                          obtain ⟨ad252, A252_3, c252_3, e252, hx252_0, hx252_1, hx252_2, hx252_3, hl252_3, hi252_3⟩ := at_T39 (Kd.S_reads' HO_8.out).2.2 x9_1 p252 q252
                                                          (try rw [← Nbq36.out] at hx252_0)
                                                          obtain rfl : ad245 = ad252 := (by injection e252)
                                                          obtain ⟨ce252, hce252, hMe252, hcc252⟩ := Kd.S_get HO_8.out z39 x9_1 p252 (by first | exact q252 | exact of_decide_eq_true (by first | (with_reducible assumption) | assumption) | (have e_ := (Kd.S_reads' HO_8.out).1; omega))
                                                          obtain ⟨ve252_3, rfl, ge252_3⟩ := k39_openM hMe252
                                                          have hv252_3 := hcc252 3 _ rfl
                                                          rw [add_field _ _ 3 (by omega)] at hv252_3
                                                          replace hv252_3 := Option.some.inj (hv252_3.symm.trans hx252_3)
                                                          rw [hv252_3] at ge252_3
                                                          have HL252_3 := Aside0.mk (show Kd.R k36 36 _ _ _ _ ((rd_T39 t241 x9_1).f2) from ge252_3)
                                                          clear hv252_3 ge252_3
                                                          clear hcc252 hce252
                                                          have HR252_3 := Aside0.mk hi252_3
                                                          have HC252_3 := Aside0.mk hl252_3
                                                          clear hi252_3 hl252_3
                                                          replace p252 := eq_true p252
                                                          replace q252 := eq_true q252
                                                          have ea_ := Option.some.inj (hx247_3.symm.trans hx252_3)
                                                          injection ea_ with ea_ en_ ec_
                                                          subst ea_
                                                          subst ec_
                                                          clear en_
                                                          have p253 : 0 ≤ (x12_3 : Int) := of_decide_eq_true (by first | (with_reducible assumption) | assumption)
                                                          have q253 : x12_3 < (t236.length : Int) := of_decide_eq_true (by first | (with_reducible assumption) | assumption)
                                                          obtain ⟨ad253, A253_0, c253_0, e253, hx253_0, hl253_0, hi253_0⟩ := at_L1 (Kd.S_reads' HO_7.out).2.2 x12_3 p253 q253
                                                          obtain rfl : ad250 = ad253 := (by injection e253)
                                                          obtain ⟨ce253, hce253, hMe253, hcc253⟩ := Kd.S_get HO_7.out [] x12_3 p253 (by first | exact q253 | exact of_decide_eq_true (by first | (with_reducible assumption) | assumption) | (have e_ := (Kd.S_reads' HO_7.out).1; omega))
                                                          obtain ⟨ve253_0, rfl, ge253_0⟩ := hMe253
                                                          have hv253_0 := hcc253 0 _ rfl
                                                          rw [Nat.add_zero, show ((Kd.slice 3 (Kd.int .i64))).sz = 1 from rfl, Nat.mul_one] at hv253_0
                                                          replace hv253_0 := Option.some.inj (hv253_0.symm.trans hx253_0)
                                                          rw [hv253_0] at ge253_0
                                                          have HL253_0 := Aside0.mk (show Kd.R (Kd.int .i64) 3 _ _ _ _ (rd_L1 t236 x12_3) from ge253_0)
                                                          clear hv253_0 ge253_0
                                                          clear hcc253 hce253
                                                          have HR253_0 := Aside0.mk hi253_0
                                                          have HC253_0 := Aside0.mk hl253_0
                                                          clear hi253_0 hl253_0
                                                          replace p253 := eq_true p253
                                                          replace q253 := eq_true q253
                                                          have ea_ := Option.some.inj (hx250_0.symm.trans hx253_0)
                                                          injection ea_ with ea_ en_ ec_
                                                          subst ea_
                                                          subst ec_
                                                          clear en_
                                                          have p254 : 0 ≤ (x10_2 : Int) := of_decide_eq_true (by first | (with_reducible assumption) | assumption)
                                                          have q254 : x10_2 < ((rd_L1 t236 x12_3).length : Int) := of_decide_eq_true (by first | (with_reducible assumption) | assumption)
                                                          obtain ⟨ad254, e254, hx254_0⟩ := Kd.at_int (by repeat (first | (with_reducible exact HR253_0.out) | (with_reducible refine Kd.C_alloc ?_ _) | (with_reducible refine Kd.C_drewN ?_ _) | (with_reducible refine Kd.C_drew ?_) | exact HR253_0.out)) x10_2 p254 q254
                                                          cases e254
                                                          replace p254 := eq_true p254
                                                          replace q254 := eq_true q254
                                                          have p255 : 0 ≤ (x12_3 : Int) := of_decide_eq_true (by first | (with_reducible assumption) | assumption)
                                                          have q255 : x12_3 < (l1.length : Int) := of_decide_eq_true (by first | (with_reducible assumption) | assumption)
                                                          obtain ⟨ad255, A255_0, c255_0, e255, hx255_0, hl255_0, hi255_0⟩ := at_L9 HR1.out x12_3 p255 q255
                                                          cases e255
                                                          replace hx255_0 := (HB.out.cell (World.block_lt_of_cell? w _ hx255_0)).trans hx255_0
                                                          have HR255_0 := Aside0.mk hi255_0
                                                          have HC255_0 := Aside0.mk hl255_0
                                                          clear hi255_0 hl255_0
                                                          replace p255 := eq_true p255
                                                          replace q255 := eq_true q255
                                                          have p256 : 0 ≤ ((ji39) : Int) := of_decide_eq_true (by first | (with_reducible assumption) | assumption)
                                                          have q256 : (ji39) < ((rd_L9 l1 x12_3).length : Int) := of_decide_eq_true (by first | (with_reducible assumption) | assumption)
                                                          obtain ⟨ad256, e256, hx256_0⟩ := Kd.at_int HR255_0.out (ji39) p256 q256
                                                          cases e256
                                                          replace hx256_0 := (HB.out.cell (World.block_lt_of_cell? w _ hx256_0)).trans hx256_0
                                                          replace p256 := eq_true p256
                                                          replace q256 := eq_true q256
                                                          have p257 : 0 ≤ (x10_2 : Int) := of_decide_eq_true (by first | (with_reducible assumption) | assumption)
                                                          have q257 : x10_2 < (l0.length : Int) := of_decide_eq_true (by first | (with_reducible assumption) | assumption)
                                                          obtain ⟨ad257, e257, hx257_0⟩ := Kd.at_int HR0.out x10_2 p257 q257
                                                          cases e257
                                                          replace hx257_0 := (HB.out.cell (World.block_lt_of_cell? w _ hx257_0)).trans hx257_0
                                                          replace p257 := eq_true p257
                                                          replace q257 := eq_true q257
                                                          go_wp2
                                                          repeat (go_quiet (fail); try go_wp2)
                                                          go_ret
                                                          exact ⟨by first | rfl | (simp [errW_none, errW_some] <;> rfl) | (simp only [← hji39]; first | rfl | (simp [errW_none, errW_some] <;> rfl)) | (simp [*, errW_none, errW_some] <;> rfl), by repeat (first | (with_reducible first | exact HB.out | apply below_alloc | apply pw_below_drewN | apply below_drew1) | exact HB.out)⟩
                                                      · rw [if_neg c42] at H
                                                        exact absurd H (by simp)
                                                    · rw [if_neg c41] at H
                                                      exact absurd H (by simp)
                                                  · rw [if_neg c40] at H
                                                    exact absurd H (by simp)
                                                · rw [if_neg c38] at H
                                                  have c38b0 : ((rd (rd_L1 t236 x12_3) x10_2) == (wrap64 ((wrap64 (((rd_T36 ((rd_T39 t241 x9_1).f2) x12_3).f0) + x10_2)) - ((rd_T39 t241 x9_1).f1.f0)))) = false := beq_eq_false_iff_ne.mpr c38
                                                  have c38b1 : ((rd (rd_L1 t236 x12_3) x10_2) != (wrap64 ((wrap64 (((rd_T36 ((rd_T39 t241 x9_1).f2) x12_3).f0) + x10_2)) - ((rd_T39 t241 x9_1).f1.f0)))) = true := bne_iff_ne.mpr c38
                                                  obtain rfl := Option.some.inj H
                                                  have p247 : 0 ≤ (x9_1 : Int) := of_decide_eq_true (by first | (with_reducible assumption) | assumption)
                                                  have q247 : x9_1 < (t241.length : Int) := of_decide_eq_true (by first | (with_reducible assumption) | assumption)
                                                  obtain ⟨ad247, A247_3, c247_3, e247, hx247_0, hx247_1, hx247_2, hx247_3, hl247_3, hi247_3⟩ := at_T39 (Kd.S_reads' HO_8.out).2.2 x9_1 p247 q247
                                                  (try rw [← Nbq36.out] at hx247_0)
                                                  obtain rfl : ad245 = ad247 := (by injection e247)
                                                  obtain ⟨ce247, hce247, hMe247, hcc247⟩ := Kd.S_get HO_8.out z39 x9_1 p247 (by first | exact q247 | exact of_decide_eq_true (by first | (with_reducible assumption) | assumption) | (have e_ := (Kd.S_reads' HO_8.out).1; omega))
                                                  obtain ⟨ve247_3, rfl, ge247_3⟩ := k39_openM hMe247
                                                  have hv247_3 := hcc247 3 _ rfl
                                                  rw [add_field _ _ 3 (by omega)] at hv247_3
                                                  replace hv247_3 := Option.some.inj (hv247_3.symm.trans hx247_3)
                                                  rw [hv247_3] at ge247_3
                                                  have HL247_3 := Aside0.mk (show Kd.R k36 36 _ _ _ _ ((rd_T39 t241 x9_1).f2) from ge247_3)
                                                  clear hv247_3 ge247_3
                                                  clear hcc247 hce247
                                                  have HR247_3 := Aside0.mk hi247_3
                                                  have HC247_3 := Aside0.mk hl247_3
                                                  clear hi247_3 hl247_3
                                                  replace p247 := eq_true p247
                                                  replace q247 := eq_true q247
                                                  have p248 : 0 ≤ (x12_3 : Int) := of_decide_eq_true (by first | (with_reducible assumption) | assumption)
                                                  have q248 : x12_3 < (((rd_T39 t241 x9_1).f2).length : Int) := of_decide_eq_true (by first | (with_reducible assumption) | assumption)
                                                  obtain ⟨ad248, e248, hx248_0, hx248_1⟩ := at_T36 (by repeat (first | (with_reducible exact HR247_3.out) | (with_reducible refine Kd.C_alloc ?_ _) | (with_reducible refine Kd.C_drewN ?_ _) | (with_reducible refine Kd.C_drew ?_) | exact HR247_3.out)) x12_3 p248 q248
                                                  cases e248
                                                  replace p248 := eq_true p248
                                                  replace q248 := eq_true q248
                                                  have p249 : 0 ≤ (x9_1 : Int) := of_decide_eq_true (by first | (with_reducible assumption) | assumption)
                                                  have q249 : x9_1 < (t241.length : Int) := of_decide_eq_true (by first | (with_reducible assumption) | assumption)
                                                  obtain ⟨ad249, A249_3, c249_3, e249, hx249_0, hx249_1, hx249_2, hx249_3, hl249_3, hi249_3⟩ := at_T39 (Kd.S_reads' HO_8.out).2.2 x9_1 p249 q249
                                                  (try rw [← Nbq36.out] at hx249_0)
                                                  obtain rfl : ad245 = ad249 := (by injection e249)
                                                  obtain ⟨ce249, hce249, hMe249, hcc249⟩ := Kd.S_get HO_8.out z39 x9_1 p249 (by first | exact q249 | exact of_decide_eq_true (by first | (with_reducible assumption) | assumption) | (have e_ := (Kd.S_reads' HO_8.out).1; omega))
                                                  obtain ⟨ve249_3, rfl, ge249_3⟩ := k39_openM hMe249
                                                  have hv249_3 := hcc249 3 _ rfl
                                                  rw [add_field _ _ 3 (by omega)] at hv249_3
                                                  replace hv249_3 := Option.some.inj (hv249_3.symm.trans hx249_3)
                                                  rw [hv249_3] at ge249_3
                                                  have HL249_3 := Aside0.mk (show Kd.R k36 36 _ _ _ _ ((rd_T39 t241 x9_1).f2) from ge249_3)
                                                  clear hv249_3 ge249_3
                                                  clear hcc249 hce249
                                                  have HR249_3 := Aside0.mk hi249_3
                                                  have HC249_3 := Aside0.mk hl249_3
                                                  clear hi249_3 hl249_3
                                                  replace p249 := eq_true p249
                                                  replace q249 := eq_true q249
                                                  have ea_ := Option.some.inj (hx247_3.symm.trans hx249_3)
                                                  injection ea_ with ea_ en_ ec_
                                                  subst ea_
                                                  subst ec_
                                                  clear en_
                                                  obtain ⟨Ao46, co46, eo46⟩ := Kd.S_slice HO_7.out
                                                  subst eo46
                                                  have p250 : 0 ≤ (x12_3 : Int) := of_decide_eq_true (by first | (with_reducible assumption) | assumption)
                                                  have q250 : x12_3 < (t236.length : Int) := of_decide_eq_true (by first | (with_reducible assumption) | assumption)
                                                  obtain ⟨ad250, A250_0, c250_0, e250, hx250_0, hl250_0, hi250_0⟩ := at_L1 (Kd.S_reads' HO_7.out).2.2 x12_3 p250 q250
                                                  cases e250
                                                  obtain ⟨ce250, hce250, hMe250, hcc250⟩ := Kd.S_get HO_7.out [] x12_3 p250 (by first | exact q250 | exact of_decide_eq_true (by first | (with_reducible assumption) | assumption) | (have e_ := (Kd.S_reads' HO_7.out).1; omega))
                                                  obtain ⟨ve250_0, rfl, ge250_0⟩ := hMe250
                                                  have hv250_0 := hcc250 0 _ rfl
                                                  rw [Nat.add_zero, show ((Kd.slice 3 (Kd.int .i64))).sz = 1 from rfl, Nat.mul_one] at hv250_0
                                                  replace hv250_0 := Option.some.inj (hv250_0.symm.trans hx250_0)
                                                  rw [hv250_0] at ge250_0
                                                  have HL250_0 := Aside0.mk (show Kd.R (Kd.int .i64) 3 _ _ _ _ (rd_L1 t236 x12_3) from ge250_0)
                                                  clear hv250_0 ge250_0
                                                  clear hcc250 hce250
                                                  have HR250_0 := Aside0.mk hi250_0
                                                  have HC250_0 := Aside0.mk hl250_0
                                                  clear hi250_0 hl250_0
                                                  replace p250 := eq_true p250
                                                  replace q250 := eq_true q250
                                                  have p251 : 0 ≤ (x10_2 : Int) := of_decide_eq_true (by first | (with_reducible assumption) | assumption)
                                                  have q251 : x10_2 < ((rd_L1 t236 x12_3).length : Int) := of_decide_eq_true (by first | (with_reducible assumption) | assumption)
                                                  obtain ⟨ad251, e251, hx251_0⟩ := Kd.at_int (by repeat (first | (with_reducible exact HR250_0.out) | (with_reducible refine Kd.C_alloc ?_ _) | (with_reducible refine Kd.C_drewN ?_ _) | (with_reducible refine Kd.C_drew ?_) | exact HR250_0.out)) x10_2 p251 q251
                                                  cases e251
                                                  replace p251 := eq_true p251
                                                  replace q251 := eq_true q251
                                                  have p252 : 0 ≤ (x9_1 : Int) := of_decide_eq_true (by first | (with_reducible assumption) | assumption)
                                                  have q252 : x9_1 < (t241.length : Int) := of_decide_eq_true (by first | (with_reducible assumption) | assumption)
                                                  obtain ⟨ad252, A252_3, c252_3, e252, hx252_0, hx252_1, hx252_2, hx252_3, hl252_3, hi252_3⟩ := at_T39 (Kd.S_reads' HO_8.out).2.2 x9_1 p252 q252
                                                  (try rw [← Nbq36.out] at hx252_0)
                                                  obtain rfl : ad245 = ad252 := (by injection e252)
                                                  obtain ⟨ce252, hce252, hMe252, hcc252⟩ := Kd.S_get HO_8.out z39 x9_1 p252 (by first | exact q252 | exact of_decide_eq_true (by first | (with_reducible assumption) | assumption) | (have e_ := (Kd.S_reads' HO_8.out).1; omega))
                                                  obtain ⟨ve252_3, rfl, ge252_3⟩ := k39_openM hMe252
                                                  have hv252_3 := hcc252 3 _ rfl
                                                  rw [add_field _ _ 3 (by omega)] at hv252_3
                                                  replace hv252_3 := Option.some.inj (hv252_3.symm.trans hx252_3)
                                                  rw [hv252_3] at ge252_3
                                                  have HL252_3 := Aside0.mk (show Kd.R k36 36 _ _ _ _ ((rd_T39 t241 x9_1).f2) from ge252_3)
                                                  clear hv252_3 ge252_3
                                                  clear hcc252 hce252
                                                  have HR252_3 := Aside0.mk hi252_3
                                                  have HC252_3 := Aside0.mk hl252_3
                                                  clear hi252_3 hl252_3
                                                  replace p252 := eq_true p252
                                                  replace q252 := eq_true q252
                                                  have ea_ := Option.some.inj (hx247_3.symm.trans hx252_3)
                                                  injection ea_ with ea_ en_ ec_
                                                  subst ea_
                                                  subst ec_
                                                  clear en_
                                                  have p253 : 0 ≤ (x12_3 : Int) := of_decide_eq_true (by first | (with_reducible assumption) | assumption)
                                                  have q253 : x12_3 < (t236.length : Int) := of_decide_eq_true (by first | (with_reducible assumption) | assumption)
                                                  obtain ⟨ad253, A253_0, c253_0, e253, hx253_0, hl253_0, hi253_0⟩ := at_L1 (Kd.S_reads' HO_7.out).2.2 x12_3 p253 q253
                                                  obtain rfl : ad250 = ad253 := (by injection e253)
                                                  obtain ⟨ce253, hce253, hMe253, hcc253⟩ := Kd.S_get HO_7.out [] x12_3 p253 (by first | exact q253 | exact of_decide_eq_true (by first | (with_reducible assumption) | assumption) | (have e_ := (Kd.S_reads' HO_7.out).1; omega))
                                                  obtain ⟨ve253_0, rfl, ge253_0⟩ := hMe253
                                                  have hv253_0 := hcc253 0 _ rfl
                                                  rw [Nat.add_zero, show ((Kd.slice 3 (Kd.int .i64))).sz = 1 from rfl, Nat.mul_one] at hv253_0
                                                  replace hv253_0 := Option.some.inj (hv253_0.symm.trans hx253_0)
                                                  rw [hv253_0] at ge253_0
                                                  have HL253_0 := Aside0.mk (show Kd.R (Kd.int .i64) 3 _ _ _ _ (rd_L1 t236 x12_3) from ge253_0)
                                                  clear hv253_0 ge253_0
                                                  clear hcc253 hce253
                                                  have HR253_0 := Aside0.mk hi253_0
                                                  have HC253_0 := Aside0.mk hl253_0
                                                  clear hi253_0 hl253_0
                                                  replace p253 := eq_true p253
                                                  replace q253 := eq_true q253
                                                  have ea_ := Option.some.inj (hx250_0.symm.trans hx253_0)
                                                  injection ea_ with ea_ en_ ec_
                                                  subst ea_
                                                  subst ec_
                                                  clear en_
                                                  have p254 : 0 ≤ (x10_2 : Int) := of_decide_eq_true (by first | (with_reducible assumption) | assumption)
                                                  have q254 : x10_2 < ((rd_L1 t236 x12_3).length : Int) := of_decide_eq_true (by first | (with_reducible assumption) | assumption)
                                                  obtain ⟨ad254, e254, hx254_0⟩ := Kd.at_int (by repeat (first | (with_reducible exact HR253_0.out) | (with_reducible refine Kd.C_alloc ?_ _) | (with_reducible refine Kd.C_drewN ?_ _) | (with_reducible refine Kd.C_drew ?_) | exact HR253_0.out)) x10_2 p254 q254
                                                  cases e254
                                                  replace p254 := eq_true p254
                                                  replace q254 := eq_true q254
                                                  go_wp2
                                                  repeat (go_quiet (fail); try go_wp2)
                                                  go_ret
                                                  exact ⟨by first | rfl | (simp [errW_none, errW_some] <;> rfl) | (simp [*, errW_none, errW_some] <;> rfl), by repeat (first | (with_reducible first | exact HB.out | apply below_alloc | apply pw_below_drewN | apply below_drew1) | exact HB.out)⟩
                                              · replace c37 := Bool.eq_false_iff.mpr c37
                                                subst c37
                                                have H1 : (sennitlaw05_AlignStable.l2 k3 l0 l1 t227 t236 t241 x9_1 x10_2 (decide ((rd (rd_L1 t236 x12_3) x10_2) ≥ 0)) (wrap64 (x12_3 + 1))) = some r := by rw [if_neg (show ¬ (false = true) by decide)] at H; exact H
                                                clear H
                                                have H := H1
                                                clear H1
                                                have H' := Aside0.mk H
                                                clear H
                                                have p247 : 0 ≤ (x9_1 : Int) := of_decide_eq_true (by first | (with_reducible assumption) | assumption)
                                                have q247 : x9_1 < (t241.length : Int) := of_decide_eq_true (by first | (with_reducible assumption) | assumption)
                                                obtain ⟨ad247, A247_3, c247_3, e247, hx247_0, hx247_1, hx247_2, hx247_3, hl247_3, hi247_3⟩ := at_T39 (Kd.S_reads' HO_8.out).2.2 x9_1 p247 q247
                                                (try rw [← Nbq36.out] at hx247_0)
                                                obtain rfl : ad245 = ad247 := (by injection e247)
                                                obtain ⟨ce247, hce247, hMe247, hcc247⟩ := Kd.S_get HO_8.out z39 x9_1 p247 (by first | exact q247 | exact of_decide_eq_true (by first | (with_reducible assumption) | assumption) | (have e_ := (Kd.S_reads' HO_8.out).1; omega))
                                                obtain ⟨ve247_3, rfl, ge247_3⟩ := k39_openM hMe247
                                                have hv247_3 := hcc247 3 _ rfl
                                                rw [add_field _ _ 3 (by omega)] at hv247_3
                                                replace hv247_3 := Option.some.inj (hv247_3.symm.trans hx247_3)
                                                rw [hv247_3] at ge247_3
                                                have HL247_3 := Aside0.mk (show Kd.R k36 36 _ _ _ _ ((rd_T39 t241 x9_1).f2) from ge247_3)
                                                clear hv247_3 ge247_3
                                                clear hcc247 hce247
                                                have HR247_3 := Aside0.mk hi247_3
                                                have HC247_3 := Aside0.mk hl247_3
                                                clear hi247_3 hl247_3
                                                replace p247 := eq_true p247
                                                replace q247 := eq_true q247
                                                have p248 : 0 ≤ (x12_3 : Int) := of_decide_eq_true (by first | (with_reducible assumption) | assumption)
                                                have q248 : x12_3 < (((rd_T39 t241 x9_1).f2).length : Int) := of_decide_eq_true (by first | (with_reducible assumption) | assumption)
                                                obtain ⟨ad248, e248, hx248_0, hx248_1⟩ := at_T36 (by repeat (first | (with_reducible exact HR247_3.out) | (with_reducible refine Kd.C_alloc ?_ _) | (with_reducible refine Kd.C_drewN ?_ _) | (with_reducible refine Kd.C_drew ?_) | exact HR247_3.out)) x12_3 p248 q248
                                                cases e248
                                                replace p248 := eq_true p248
                                                replace q248 := eq_true q248
                                                have p249 : 0 ≤ (x9_1 : Int) := of_decide_eq_true (by first | (with_reducible assumption) | assumption)
                                                have q249 : x9_1 < (t241.length : Int) := of_decide_eq_true (by first | (with_reducible assumption) | assumption)
                                                obtain ⟨ad249, A249_3, c249_3, e249, hx249_0, hx249_1, hx249_2, hx249_3, hl249_3, hi249_3⟩ := at_T39 (Kd.S_reads' HO_8.out).2.2 x9_1 p249 q249
                                                (try rw [← Nbq36.out] at hx249_0)
                                                obtain rfl : ad245 = ad249 := (by injection e249)
                                                obtain ⟨ce249, hce249, hMe249, hcc249⟩ := Kd.S_get HO_8.out z39 x9_1 p249 (by first | exact q249 | exact of_decide_eq_true (by first | (with_reducible assumption) | assumption) | (have e_ := (Kd.S_reads' HO_8.out).1; omega))
                                                obtain ⟨ve249_3, rfl, ge249_3⟩ := k39_openM hMe249
                                                have hv249_3 := hcc249 3 _ rfl
                                                rw [add_field _ _ 3 (by omega)] at hv249_3
                                                replace hv249_3 := Option.some.inj (hv249_3.symm.trans hx249_3)
                                                rw [hv249_3] at ge249_3
                                                have HL249_3 := Aside0.mk (show Kd.R k36 36 _ _ _ _ ((rd_T39 t241 x9_1).f2) from ge249_3)
                                                clear hv249_3 ge249_3
                                                clear hcc249 hce249
                                                have HR249_3 := Aside0.mk hi249_3
                                                have HC249_3 := Aside0.mk hl249_3
                                                clear hi249_3 hl249_3
                                                replace p249 := eq_true p249
                                                replace q249 := eq_true q249
                                                have ea_ := Option.some.inj (hx247_3.symm.trans hx249_3)
                                                injection ea_ with ea_ en_ ec_
                                                subst ea_
                                                subst ec_
                                                clear en_
                                                obtain ⟨Ao47, co47, eo47⟩ := Kd.S_slice HO_7.out
                                                subst eo47
                                                have p250 : 0 ≤ (x12_3 : Int) := of_decide_eq_true (by first | (with_reducible assumption) | assumption)
                                                have q250 : x12_3 < (t236.length : Int) := of_decide_eq_true (by first | (with_reducible assumption) | assumption)
                                                obtain ⟨ad250, A250_0, c250_0, e250, hx250_0, hl250_0, hi250_0⟩ := at_L1 (Kd.S_reads' HO_7.out).2.2 x12_3 p250 q250
                                                cases e250
                                                obtain ⟨ce250, hce250, hMe250, hcc250⟩ := Kd.S_get HO_7.out [] x12_3 p250 (by first | exact q250 | exact of_decide_eq_true (by first | (with_reducible assumption) | assumption) | (have e_ := (Kd.S_reads' HO_7.out).1; omega))
                                                obtain ⟨ve250_0, rfl, ge250_0⟩ := hMe250
                                                have hv250_0 := hcc250 0 _ rfl
                                                rw [Nat.add_zero, show ((Kd.slice 3 (Kd.int .i64))).sz = 1 from rfl, Nat.mul_one] at hv250_0
                                                replace hv250_0 := Option.some.inj (hv250_0.symm.trans hx250_0)
                                                rw [hv250_0] at ge250_0
                                                have HL250_0 := Aside0.mk (show Kd.R (Kd.int .i64) 3 _ _ _ _ (rd_L1 t236 x12_3) from ge250_0)
                                                clear hv250_0 ge250_0
                                                clear hcc250 hce250
                                                have HR250_0 := Aside0.mk hi250_0
                                                have HC250_0 := Aside0.mk hl250_0
                                                clear hi250_0 hl250_0
                                                replace p250 := eq_true p250
                                                replace q250 := eq_true q250
                                                have p251 : 0 ≤ (x10_2 : Int) := of_decide_eq_true (by first | (with_reducible assumption) | assumption)
                                                have q251 : x10_2 < ((rd_L1 t236 x12_3).length : Int) := of_decide_eq_true (by first | (with_reducible assumption) | assumption)
                                                obtain ⟨ad251, e251, hx251_0⟩ := Kd.at_int (by repeat (first | (with_reducible exact HR250_0.out) | (with_reducible refine Kd.C_alloc ?_ _) | (with_reducible refine Kd.C_drewN ?_ _) | (with_reducible refine Kd.C_drew ?_) | exact HR250_0.out)) x10_2 p251 q251
                                                cases e251
                                                replace p251 := eq_true p251
                                                replace q251 := eq_true q251
                                                have p252 : 0 ≤ (x9_1 : Int) := of_decide_eq_true (by first | (with_reducible assumption) | assumption)
                                                have q252 : x9_1 < (t241.length : Int) := of_decide_eq_true (by first | (with_reducible assumption) | assumption)
                                                obtain ⟨ad252, A252_3, c252_3, e252, hx252_0, hx252_1, hx252_2, hx252_3, hl252_3, hi252_3⟩ := at_T39 (Kd.S_reads' HO_8.out).2.2 x9_1 p252 q252
                                                (try rw [← Nbq36.out] at hx252_0)
                                                obtain rfl : ad245 = ad252 := (by injection e252)
                                                obtain ⟨ce252, hce252, hMe252, hcc252⟩ := Kd.S_get HO_8.out z39 x9_1 p252 (by first | exact q252 | exact of_decide_eq_true (by first | (with_reducible assumption) | assumption) | (have e_ := (Kd.S_reads' HO_8.out).1; omega))
                                                obtain ⟨ve252_3, rfl, ge252_3⟩ := k39_openM hMe252
                                                have hv252_3 := hcc252 3 _ rfl
                                                rw [add_field _ _ 3 (by omega)] at hv252_3
                                                replace hv252_3 := Option.some.inj (hv252_3.symm.trans hx252_3)
                                                rw [hv252_3] at ge252_3
                                                have HL252_3 := Aside0.mk (show Kd.R k36 36 _ _ _ _ ((rd_T39 t241 x9_1).f2) from ge252_3)
                                                clear hv252_3 ge252_3
                                                clear hcc252 hce252
                                                have HR252_3 := Aside0.mk hi252_3
                                                have HC252_3 := Aside0.mk hl252_3
                                                clear hi252_3 hl252_3
                                                replace p252 := eq_true p252
                                                replace q252 := eq_true q252
                                                have ea_ := Option.some.inj (hx247_3.symm.trans hx252_3)
                                                injection ea_ with ea_ en_ ec_
                                                subst ea_
                                                subst ec_
                                                clear en_
                                                go_wp2
                                                repeat (go_quiet (fail); try go_wp2)
                                                go_roundg k3
                                                case measure => have := HK1.out; have := HK2.out; have := HK3.out; omega
                                                case rel => exact ⟨(decide ((rd (rd_L1 t236 x12_3) x10_2) ≥ 0)), (wrap64 (x12_3 + 1)), (by first | rfl | (simp; done) | (simp [*]; done)), (by first | rfl | (simp; done) | (simp [*]; done)), H', ⟨by have := HK1.out; have := HK2.out; have := HK3.out; omega⟩, ⟨by (with_reducible repeat (first | apply Kd.S_alloc | apply Kd.S_drewN | apply Kd.S_drew)); exact HO_7.out⟩, ⟨by (with_reducible repeat (first | apply Kd.S_alloc | apply Kd.S_drewN | apply Kd.S_drew)); exact HO_8.out⟩, ⟨by repeat (first | (with_reducible exact HR245_3.out) | (with_reducible refine Kd.C_alloc ?_ _) | (with_reducible refine Kd.C_drewN ?_ _) | (with_reducible refine Kd.C_drew ?_) | exact HR245_3.out)⟩, ⟨by repeat (first | (with_reducible exact HR246_3.out) | (with_reducible refine Kd.C_alloc ?_ _) | (with_reducible refine Kd.C_drewN ?_ _) | (with_reducible refine Kd.C_drew ?_) | exact HR246_3.out)⟩, ⟨by repeat (first | (with_reducible first | exact HB.out | apply below_alloc | apply pw_below_drewN | apply below_drew1) | exact HB.out)⟩⟩
                                            · rw [if_neg c35] at H
                                              exact absurd H (by simp)
                                          · rw [if_neg c34] at H
                                            exact absurd H (by simp)
                                        · rw [if_neg c33] at H
                                          exact absurd H (by simp)
                                      · replace c32 := Bool.eq_false_iff.mpr c32
                                        subst c32
                                        have H1 : (if (rd_T39 t241 x9_1).f0 = true then (if x12_3 < (t236.length : Int) then (if 0 ≤ x10_2 then (if x10_2 < ((rd_L1 t236 x12_3).length : Int) then (if (rd (rd_L1 t236 x12_3) x10_2) = (wrap64 ((wrap64 (((rd_T36 ((rd_T39 t241 x9_1).f2) x12_3).f0) + x10_2)) - ((rd_T39 t241 x9_1).f1.f0))) then (if 0 ≤ (wrap64 ((wrap64 (((rd_T36 ((rd_T39 t241 x9_1).f2) x12_3).f0) + x10_2)) - ((rd_T39 t241 x9_1).f1.f0))) then (if (wrap64 ((wrap64 (((rd_T36 ((rd_T39 t241 x9_1).f2) x12_3).f0) + x10_2)) - ((rd_T39 t241 x9_1).f1.f0))) < ((rd_L9 l1 x12_3).length : Int) then (if x10_2 < (l0.length : Int) then (if (rd (rd_L9 l1 x12_3) (wrap64 ((wrap64 (((rd_T36 ((rd_T39 t241 x9_1).f2) x12_3).f0) + x10_2)) - ((rd_T39 t241 x9_1).f1.f0)))) = (rd l0 x10_2) then (sennitlaw05_AlignStable.l2 k3 l0 l1 t227 t236 t241 x9_1 x10_2 false (wrap64 (x12_3 + 1))) else (some false)) else (none)) else (none)) else (none)) else (some false)) else (none)) else (none)) else (none)) else (sennitlaw05_AlignStable.l2 k3 l0 l1 t227 t236 t241 x9_1 x10_2 false (wrap64 (x12_3 + 1)))) = some r := by rw [if_neg (show ¬ (false = true) by decide)] at H; exact H
                                        clear H
                                        have H := H1
                                        clear H1
                                        obtain ⟨bq48, hbq48⟩ : ∃ b_ : Bool, b_ = ((rd_T39 t241 x9_1).f0) := ⟨_, rfl⟩
                                        replace H : (if bq48 = true then (if x12_3 < (t236.length : Int) then (if 0 ≤ x10_2 then (if x10_2 < ((rd_L1 t236 x12_3).length : Int) then (if (rd (rd_L1 t236 x12_3) x10_2) = (wrap64 ((wrap64 (((rd_T36 ((rd_T39 t241 x9_1).f2) x12_3).f0) + x10_2)) - ((rd_T39 t241 x9_1).f1.f0))) then (if 0 ≤ (wrap64 ((wrap64 (((rd_T36 ((rd_T39 t241 x9_1).f2) x12_3).f0) + x10_2)) - ((rd_T39 t241 x9_1).f1.f0))) then (if (wrap64 ((wrap64 (((rd_T36 ((rd_T39 t241 x9_1).f2) x12_3).f0) + x10_2)) - ((rd_T39 t241 x9_1).f1.f0))) < ((rd_L9 l1 x12_3).length : Int) then (if x10_2 < (l0.length : Int) then (if (rd (rd_L9 l1 x12_3) (wrap64 ((wrap64 (((rd_T36 ((rd_T39 t241 x9_1).f2) x12_3).f0) + x10_2)) - ((rd_T39 t241 x9_1).f1.f0)))) = (rd l0 x10_2) then (sennitlaw05_AlignStable.l2 k3 l0 l1 t227 t236 t241 x9_1 x10_2 false (wrap64 (x12_3 + 1))) else (some false)) else (none)) else (none)) else (none)) else (some false)) else (none)) else (none)) else (none)) else (sennitlaw05_AlignStable.l2 k3 l0 l1 t227 t236 t241 x9_1 x10_2 false (wrap64 (x12_3 + 1)))) = some r := by rw [← hbq48] at H; exact H
                                        have Nbq48 := Aside0.mk hbq48
                                        clear hbq48
                                        by_cases c49 : bq48 = true
                                        · subst c49
                                          have H1 : (if x12_3 < (t236.length : Int) then (if 0 ≤ x10_2 then (if x10_2 < ((rd_L1 t236 x12_3).length : Int) then (if (rd (rd_L1 t236 x12_3) x10_2) = (wrap64 ((wrap64 (((rd_T36 ((rd_T39 t241 x9_1).f2) x12_3).f0) + x10_2)) - ((rd_T39 t241 x9_1).f1.f0))) then (if 0 ≤ (wrap64 ((wrap64 (((rd_T36 ((rd_T39 t241 x9_1).f2) x12_3).f0) + x10_2)) - ((rd_T39 t241 x9_1).f1.f0))) then (if (wrap64 ((wrap64 (((rd_T36 ((rd_T39 t241 x9_1).f2) x12_3).f0) + x10_2)) - ((rd_T39 t241 x9_1).f1.f0))) < ((rd_L9 l1 x12_3).length : Int) then (if x10_2 < (l0.length : Int) then (if (rd (rd_L9 l1 x12_3) (wrap64 ((wrap64 (((rd_T36 ((rd_T39 t241 x9_1).f2) x12_3).f0) + x10_2)) - ((rd_T39 t241 x9_1).f1.f0)))) = (rd l0 x10_2) then (sennitlaw05_AlignStable.l2 k3 l0 l1 t227 t236 t241 x9_1 x10_2 false (wrap64 (x12_3 + 1))) else (some false)) else (none)) else (none)) else (none)) else (some false)) else (none)) else (none)) else (none)) = some r := by rw [if_pos rfl] at H; exact H
                                          clear H
                                          have H := H1
                                          clear H1
                                          by_cases c50 : x12_3 < (t236.length : Int)
                                          · rw [if_pos c50] at H
                                            have c50b0 : decide (x12_3 < (t236.length : Int)) = true := decide_eq_true c50
                                            clear c50
                                            by_cases c51 : 0 ≤ x10_2
                                            · rw [if_pos c51] at H
                                              have c51b0 : decide (0 ≤ x10_2) = true := decide_eq_true c51
                                              clear c51
                                              by_cases c52 : x10_2 < ((rd_L1 t236 x12_3).length : Int)
                                              · rw [if_pos c52] at H
                                                have c52b0 : decide (x10_2 < ((rd_L1 t236 x12_3).length : Int)) = true := decide_eq_true c52
                                                clear c52
                                                by_cases c53 : (rd (rd_L1 t236 x12_3) x10_2) = (wrap64 ((wrap64 (((rd_T36 ((rd_T39 t241 x9_1).f2) x12_3).f0) + x10_2)) - ((rd_T39 t241 x9_1).f1.f0)))
                                                · rw [if_pos c53] at H
                                                  have c53b0 : ((rd (rd_L1 t236 x12_3) x10_2) == (wrap64 ((wrap64 (((rd_T36 ((rd_T39 t241 x9_1).f2) x12_3).f0) + x10_2)) - ((rd_T39 t241 x9_1).f1.f0)))) = true := beq_iff_eq.mpr c53
                                                  have c53b1 : ((rd (rd_L1 t236 x12_3) x10_2) != (wrap64 ((wrap64 (((rd_T36 ((rd_T39 t241 x9_1).f2) x12_3).f0) + x10_2)) - ((rd_T39 t241 x9_1).f1.f0)))) = false := bne_eq_false_iff_eq.mpr c53
                                                  clear c53
                                                  obtain ⟨ji54, hji54⟩ : ∃ j_ : Int, (wrap64 ((wrap64 (((rd_T36 ((rd_T39 t241 x9_1).f2) x12_3).f0) + x10_2)) - ((rd_T39 t241 x9_1).f1.f0))) = j_ := ⟨_, rfl⟩
                                                  replace H : (if 0 ≤ (ji54) then (if (ji54) < ((rd_L9 l1 x12_3).length : Int) then (if x10_2 < (l0.length : Int) then (if (rd (rd_L9 l1 x12_3) (ji54)) = (rd l0 x10_2) then (sennitlaw05_AlignStable.l2 k3 l0 l1 t227 t236 t241 x9_1 x10_2 false (wrap64 (x12_3 + 1))) else (some false)) else (none)) else (none)) else (none)) = some r := by first | (rw [hji54] at H; exact H) | (simp only [hji54] at H ⊢; exact H)
                                                  (try rw [hji54] at c53b0)
                                                  (try rw [hji54] at c53b1)
                                                  have hji54w : (IntKind.i64.wrap ((wrap64 (((rd_T36 ((rd_T39 t241 x9_1).f2) x12_3).f0) + x10_2)) - ((rd_T39 t241 x9_1).f1.f0))) = ji54 := (i64_w _).trans hji54
                                                  by_cases c55 : 0 ≤ (ji54)
                                                  · rw [if_pos c55] at H
                                                    have c55b0 : decide (0 ≤ (ji54)) = true := decide_eq_true c55
                                                    clear c55
                                                    by_cases c56 : (ji54) < ((rd_L9 l1 x12_3).length : Int)
                                                    · rw [if_pos c56] at H
                                                      have c56b0 : decide ((ji54) < ((rd_L9 l1 x12_3).length : Int)) = true := decide_eq_true c56
                                                      clear c56
                                                      by_cases c57 : x10_2 < (l0.length : Int)
                                                      · rw [if_pos c57] at H
                                                        have c57b0 : decide (x10_2 < (l0.length : Int)) = true := decide_eq_true c57
                                                        clear c57
                                                        by_cases c58 : (rd (rd_L9 l1 x12_3) (ji54)) = (rd l0 x10_2)
                                                        · rw [if_pos c58] at H
                                                          have c58b0 : ((rd (rd_L9 l1 x12_3) (ji54)) == (rd l0 x10_2)) = true := beq_iff_eq.mpr c58
                                                          have c58b1 : ((rd (rd_L9 l1 x12_3) (ji54)) != (rd l0 x10_2)) = false := bne_eq_false_iff_eq.mpr c58
                                                          clear c58
                                                          have H' := Aside0.mk H
                                                          clear H
                                                          have p247 : 0 ≤ (x9_1 : Int) := of_decide_eq_true (by first | (with_reducible assumption) | assumption)
                                                          have q247 : x9_1 < (t241.length : Int) := of_decide_eq_true (by first | (with_reducible assumption) | assumption)
                                                          obtain ⟨ad247, A247_3, c247_3, e247, hx247_0, hx247_1, hx247_2, hx247_3, hl247_3, hi247_3⟩ := at_T39 (Kd.S_reads' HO_8.out).2.2 x9_1 p247 q247
                                                          (try rw [← Nbq48.out] at hx247_0)
                                                          obtain rfl : ad245 = ad247 := (by injection e247)
                                                          obtain ⟨ce247, hce247, hMe247, hcc247⟩ := Kd.S_get HO_8.out z39 x9_1 p247 (by first | exact q247 | exact of_decide_eq_true (by first | (with_reducible assumption) | assumption) | (have e_ := (Kd.S_reads' HO_8.out).1; omega))
                                                          obtain ⟨ve247_3, rfl, ge247_3⟩ := k39_openM hMe247
                                                          have hv247_3 := hcc247 3 _ rfl
                                                          rw [add_field _ _ 3 (by omega)] at hv247_3
                                                          replace hv247_3 := Option.some.inj (hv247_3.symm.trans hx247_3)
                                                          rw [hv247_3] at ge247_3
                                                          have HL247_3 := Aside0.mk (show Kd.R k36 36 _ _ _ _ ((rd_T39 t241 x9_1).f2) from ge247_3)
                                                          clear hv247_3 ge247_3
                                                          clear hcc247 hce247
                                                          have HR247_3 := Aside0.mk hi247_3
                                                          have HC247_3 := Aside0.mk hl247_3
                                                          clear hi247_3 hl247_3
                                                          replace p247 := eq_true p247
                                                          replace q247 := eq_true q247
                                                          have p248 : 0 ≤ (x12_3 : Int) := of_decide_eq_true (by first | (with_reducible assumption) | assumption)
                                                          have q248 : x12_3 < (((rd_T39 t241 x9_1).f2).length : Int) := of_decide_eq_true (by first | (with_reducible assumption) | assumption)
                                                          obtain ⟨ad248, e248, hx248_0, hx248_1⟩ := at_T36 (by repeat (first | (with_reducible exact HR247_3.out) | (with_reducible refine Kd.C_alloc ?_ _) | (with_reducible refine Kd.C_drewN ?_ _) | (with_reducible refine Kd.C_drew ?_) | exact HR247_3.out)) x12_3 p248 q248
                                                          cases e248
                                                          replace p248 := eq_true p248
                                                          replace q248 := eq_true q248
                                                          have p249 : 0 ≤ (x9_1 : Int) := of_decide_eq_true (by first | (with_reducible assumption) | assumption)
                                                          have q249 : x9_1 < (t241.length : Int) := of_decide_eq_true (by first | (with_reducible assumption) | assumption)
                                                          obtain ⟨ad249, A249_3, c249_3, e249, hx249_0, hx249_1, hx249_2, hx249_3, hl249_3, hi249_3⟩ := at_T39 (Kd.S_reads' HO_8.out).2.2 x9_1 p249 q249
                                                          (try rw [← Nbq48.out] at hx249_0)
                                                          obtain rfl : ad245 = ad249 := (by injection e249)
                                                          obtain ⟨ce249, hce249, hMe249, hcc249⟩ := Kd.S_get HO_8.out z39 x9_1 p249 (by first | exact q249 | exact of_decide_eq_true (by first | (with_reducible assumption) | assumption) | (have e_ := (Kd.S_reads' HO_8.out).1; omega))
                                                          obtain ⟨ve249_3, rfl, ge249_3⟩ := k39_openM hMe249
                                                          have hv249_3 := hcc249 3 _ rfl
                                                          rw [add_field _ _ 3 (by omega)] at hv249_3
                                                          replace hv249_3 := Option.some.inj (hv249_3.symm.trans hx249_3)
                                                          rw [hv249_3] at ge249_3
                                                          have HL249_3 := Aside0.mk (show Kd.R k36 36 _ _ _ _ ((rd_T39 t241 x9_1).f2) from ge249_3)
                                                          clear hv249_3 ge249_3
                                                          clear hcc249 hce249
                                                          have HR249_3 := Aside0.mk hi249_3
                                                          have HC249_3 := Aside0.mk hl249_3
                                                          clear hi249_3 hl249_3
                                                          replace p249 := eq_true p249
                                                          replace q249 := eq_true q249
                                                          have ea_ := Option.some.inj (hx247_3.symm.trans hx249_3)
                                                          injection ea_ with ea_ en_ ec_
                                                          subst ea_
                                                          subst ec_
                                                          clear en_
                                                          have p258 : 0 ≤ (x9_1 : Int) := of_decide_eq_true (by first | (with_reducible assumption) | assumption)
                                                          have q258 : x9_1 < (t241.length : Int) := of_decide_eq_true (by first | (with_reducible assumption) | assumption)
                                                          obtain ⟨ad258, A258_3, c258_3, e258, hx258_0, hx258_1, hx258_2, hx258_3, hl258_3, hi258_3⟩ := at_T39 (Kd.S_reads' HO_8.out).2.2 x9_1 p258 q258
                                                          (try rw [← Nbq48.out] at hx258_0)
                                                          obtain rfl : ad245 = ad258 := (by injection e258)
                                                          obtain ⟨ce258, hce258, hMe258, hcc258⟩ := Kd.S_get HO_8.out z39 x9_1 p258 (by first | exact q258 | exact of_decide_eq_true (by first | (with_reducible assumption) | assumption) | (have e_ := (Kd.S_reads' HO_8.out).1; omega))
                                                          obtain ⟨ve258_3, rfl, ge258_3⟩ := k39_openM hMe258
                                                          have hv258_3 := hcc258 3 _ rfl
                                                          rw [add_field _ _ 3 (by omega)] at hv258_3
                                                          replace hv258_3 := Option.some.inj (hv258_3.symm.trans hx258_3)
                                                          rw [hv258_3] at ge258_3
                                                          have HL258_3 := Aside0.mk (show Kd.R k36 36 _ _ _ _ ((rd_T39 t241 x9_1).f2) from ge258_3)
                                                          clear hv258_3 ge258_3
                                                          clear hcc258 hce258
                                                          have HR258_3 := Aside0.mk hi258_3
                                                          have HC258_3 := Aside0.mk hl258_3
                                                          clear hi258_3 hl258_3
                                                          replace p258 := eq_true p258
                                                          replace q258 := eq_true q258
                                                          have ea_ := Option.some.inj (hx247_3.symm.trans hx258_3)
                                                          injection ea_ with ea_ en_ ec_
                                                          subst ea_
                                                          subst ec_
                                                          clear en_
                                                          obtain ⟨Ao59, co59, eo59⟩ := Kd.S_slice HO_7.out
                                                          subst eo59
                                                          have p259 : 0 ≤ (x12_3 : Int) := of_decide_eq_true (by first | (with_reducible assumption) | assumption)
                                                          have q259 : x12_3 < (t236.length : Int) := of_decide_eq_true (by first | (with_reducible assumption) | assumption)
                                                          obtain ⟨ad259, A259_0, c259_0, e259, hx259_0, hl259_0, hi259_0⟩ := at_L1 (Kd.S_reads' HO_7.out).2.2 x12_3 p259 q259
                                                          cases e259
                                                          obtain ⟨ce259, hce259, hMe259, hcc259⟩ := Kd.S_get HO_7.out [] x12_3 p259 (by first | exact q259 | exact of_decide_eq_true (by first | (with_reducible assumption) | assumption) | (have e_ := (Kd.S_reads' HO_7.out).1; omega))
                                                          obtain ⟨ve259_0, rfl, ge259_0⟩ := hMe259
                                                          have hv259_0 := hcc259 0 _ rfl
                                                          rw [Nat.add_zero, show ((Kd.slice 3 (Kd.int .i64))).sz = 1 from rfl, Nat.mul_one] at hv259_0
                                                          replace hv259_0 := Option.some.inj (hv259_0.symm.trans hx259_0)
                                                          rw [hv259_0] at ge259_0
                                                          have HL259_0 := Aside0.mk (show Kd.R (Kd.int .i64) 3 _ _ _ _ (rd_L1 t236 x12_3) from ge259_0)
                                                          clear hv259_0 ge259_0
                                                          clear hcc259 hce259
                                                          have HR259_0 := Aside0.mk hi259_0
                                                          have HC259_0 := Aside0.mk hl259_0
                                                          clear hi259_0 hl259_0
                                                          replace p259 := eq_true p259
                                                          replace q259 := eq_true q259
                                                          have p260 : 0 ≤ (x10_2 : Int) := of_decide_eq_true (by first | (with_reducible assumption) | assumption)
                                                          have q260 : x10_2 < ((rd_L1 t236 x12_3).length : Int) := of_decide_eq_true (by first | (with_reducible assumption) | assumption)
                                                          obtain ⟨ad260, e260, hx260_0⟩ := Kd.at_int (by repeat (first | (with_reducible exact HR259_0.out) | (with_reducible refine Kd.C_alloc ?_ _) | (with_reducible refine Kd.C_drewN ?_ _) | (with_reducible refine Kd.C_drew ?_) | exact HR259_0.out)) x10_2 p260 q260
                                                          cases e260
                                                          replace p260 := eq_true p260
                                                          replace q260 := eq_true q260
                                                          have p261 : 0 ≤ (x12_3 : Int) := of_decide_eq_true (by first | (with_reducible assumption) | assumption)
                                                          have q261 : x12_3 < (l1.length : Int) := of_decide_eq_true (by first | (with_reducible assumption) | assumption)
                                                          obtain ⟨ad261, A261_0, c261_0, e261, hx261_0, hl261_0, hi261_0⟩ := at_L9 HR1.out x12_3 p261 q261
                                                          cases e261
                                                          replace hx261_0 := (HB.out.cell (World.block_lt_of_cell? w _ hx261_0)).trans hx261_0
                                                          have HR261_0 := Aside0.mk hi261_0
                                                          have HC261_0 := Aside0.mk hl261_0
                                                          clear hi261_0 hl261_0
                                                          replace p261 := eq_true p261
                                                          replace q261 := eq_true q261
                                                          have p262 : 0 ≤ ((ji54) : Int) := of_decide_eq_true (by first | (with_reducible assumption) | assumption)
                                                          have q262 : (ji54) < ((rd_L9 l1 x12_3).length : Int) := of_decide_eq_true (by first | (with_reducible assumption) | assumption)
                                                          obtain ⟨ad262, e262, hx262_0⟩ := Kd.at_int HR261_0.out (ji54) p262 q262
                                                          cases e262
                                                          replace hx262_0 := (HB.out.cell (World.block_lt_of_cell? w _ hx262_0)).trans hx262_0
                                                          replace p262 := eq_true p262
                                                          replace q262 := eq_true q262
                                                          have p263 : 0 ≤ (x10_2 : Int) := of_decide_eq_true (by first | (with_reducible assumption) | assumption)
                                                          have q263 : x10_2 < (l0.length : Int) := of_decide_eq_true (by first | (with_reducible assumption) | assumption)
                                                          obtain ⟨ad263, e263, hx263_0⟩ := Kd.at_int HR0.out x10_2 p263 q263
                                                          cases e263
                                                          replace hx263_0 := (HB.out.cell (World.block_lt_of_cell? w _ hx263_0)).trans hx263_0
                                                          replace p263 := eq_true p263
                                                          replace q263 := eq_true q263
                                                          go_wp2
                                                          repeat (go_quiet (fail); try go_wp2)
                                                          go_roundg k3
                                                          case measure => have := HK1.out; have := HK2.out; have := HK3.out; omega
                                                          case rel => exact ⟨(false), (wrap64 (x12_3 + 1)), (by first | rfl | (simp; done) | (simp [*]; done)), (by first | rfl | (simp; done) | (simp [*]; done)), H', ⟨by have := HK1.out; have := HK2.out; have := HK3.out; omega⟩, ⟨by (with_reducible repeat (first | apply Kd.S_alloc | apply Kd.S_drewN | apply Kd.S_drew)); exact HO_7.out⟩, ⟨by (with_reducible repeat (first | apply Kd.S_alloc | apply Kd.S_drewN | apply Kd.S_drew)); exact HO_8.out⟩, ⟨by repeat (first | (with_reducible exact HR245_3.out) | (with_reducible refine Kd.C_alloc ?_ _) | (with_reducible refine Kd.C_drewN ?_ _) | (with_reducible refine Kd.C_drew ?_) | exact HR245_3.out)⟩, ⟨by repeat (first | (with_reducible exact HR246_3.out) | (with_reducible refine Kd.C_alloc ?_ _) | (with_reducible refine Kd.C_drewN ?_ _) | (with_reducible refine Kd.C_drew ?_) | exact HR246_3.out)⟩, ⟨by repeat (first | (with_reducible first | exact HB.out | apply below_alloc | apply pw_below_drewN | apply below_drew1) | exact HB.out)⟩⟩
                                                        · rw [if_neg c58] at H
                                                          have c58b0 : ((rd (rd_L9 l1 x12_3) (ji54)) == (rd l0 x10_2)) = false := beq_eq_false_iff_ne.mpr c58
                                                          have c58b1 : ((rd (rd_L9 l1 x12_3) (ji54)) != (rd l0 x10_2)) = true := bne_iff_ne.mpr c58
                                                          obtain rfl := Option.some.inj H
                                                          have p247 : 0 ≤ (x9_1 : Int) := of_decide_eq_true (by first | (with_reducible assumption) | assumption)
                                                          have q247 : x9_1 < (t241.length : Int) := of_decide_eq_true (by first | (with_reducible assumption) | assumption)
                                                          obtain ⟨ad247, A247_3, c247_3, e247, hx247_0, hx247_1, hx247_2, hx247_3, hl247_3, hi247_3⟩ := at_T39 (Kd.S_reads' HO_8.out).2.2 x9_1 p247 q247
                                                          (try rw [← Nbq48.out] at hx247_0)
                                                          obtain rfl : ad245 = ad247 := (by injection e247)
                                                          obtain ⟨ce247, hce247, hMe247, hcc247⟩ := Kd.S_get HO_8.out z39 x9_1 p247 (by first | exact q247 | exact of_decide_eq_true (by first | (with_reducible assumption) | assumption) | (have e_ := (Kd.S_reads' HO_8.out).1; omega))
                                                          obtain ⟨ve247_3, rfl, ge247_3⟩ := k39_openM hMe247
                                                          have hv247_3 := hcc247 3 _ rfl
                                                          rw [add_field _ _ 3 (by omega)] at hv247_3
                                                          replace hv247_3 := Option.some.inj (hv247_3.symm.trans hx247_3)
                                                          rw [hv247_3] at ge247_3
                                                          have HL247_3 := Aside0.mk (show Kd.R k36 36 _ _ _ _ ((rd_T39 t241 x9_1).f2) from ge247_3)
                                                          clear hv247_3 ge247_3
                                                          clear hcc247 hce247
                                                          have HR247_3 := Aside0.mk hi247_3
                                                          have HC247_3 := Aside0.mk hl247_3
                                                          clear hi247_3 hl247_3
                                                          replace p247 := eq_true p247
                                                          replace q247 := eq_true q247
                                                          have p248 : 0 ≤ (x12_3 : Int) := of_decide_eq_true (by first | (with_reducible assumption) | assumption)
                                                          have q248 : x12_3 < (((rd_T39 t241 x9_1).f2).length : Int) := of_decide_eq_true (by first | (with_reducible assumption) | assumption)
                                                          obtain ⟨ad248, e248, hx248_0, hx248_1⟩ := at_T36 (by repeat (first | (with_reducible exact HR247_3.out) | (with_reducible refine Kd.C_alloc ?_ _) | (with_reducible refine Kd.C_drewN ?_ _) | (with_reducible refine Kd.C_drew ?_) | exact HR247_3.out)) x12_3 p248 q248
                                                          cases e248
                                                          replace p248 := eq_true p248
                                                          replace q248 := eq_true q248
                                                          have p249 : 0 ≤ (x9_1 : Int) := of_decide_eq_true (by first | (with_reducible assumption) | assumption)
                                                          have q249 : x9_1 < (t241.length : Int) := of_decide_eq_true (by first | (with_reducible assumption) | assumption)
                                                          obtain ⟨ad249, A249_3, c249_3, e249, hx249_0, hx249_1, hx249_2, hx249_3, hl249_3, hi249_3⟩ := at_T39 (Kd.S_reads' HO_8.out).2.2 x9_1 p249 q249
                                                          (try rw [← Nbq48.out] at hx249_0)
                                                          obtain rfl : ad245 = ad249 := (by injection e249)
                                                          obtain ⟨ce249, hce249, hMe249, hcc249⟩ := Kd.S_get HO_8.out z39 x9_1 p249 (by first | exact q249 | exact of_decide_eq_true (by first | (with_reducible assumption) | assumption) | (have e_ := (Kd.S_reads' HO_8.out).1; omega))
                                                          obtain ⟨ve249_3, rfl, ge249_3⟩ := k39_openM hMe249
                                                          have hv249_3 := hcc249 3 _ rfl
                                                          rw [add_field _ _ 3 (by omega)] at hv249_3
                                                          replace hv249_3 := Option.some.inj (hv249_3.symm.trans hx249_3)
                                                          rw [hv249_3] at ge249_3
                                                          have HL249_3 := Aside0.mk (show Kd.R k36 36 _ _ _ _ ((rd_T39 t241 x9_1).f2) from ge249_3)
                                                          clear hv249_3 ge249_3
                                                          clear hcc249 hce249
                                                          have HR249_3 := Aside0.mk hi249_3
                                                          have HC249_3 := Aside0.mk hl249_3
                                                          clear hi249_3 hl249_3
                                                          replace p249 := eq_true p249
                                                          replace q249 := eq_true q249
                                                          have ea_ := Option.some.inj (hx247_3.symm.trans hx249_3)
                                                          injection ea_ with ea_ en_ ec_
                                                          subst ea_
                                                          subst ec_
                                                          clear en_
                                                          have p258 : 0 ≤ (x9_1 : Int) := of_decide_eq_true (by first | (with_reducible assumption) | assumption)
                                                          have q258 : x9_1 < (t241.length : Int) := of_decide_eq_true (by first | (with_reducible assumption) | assumption)
                                                          obtain ⟨ad258, A258_3, c258_3, e258, hx258_0, hx258_1, hx258_2, hx258_3, hl258_3, hi258_3⟩ := at_T39 (Kd.S_reads' HO_8.out).2.2 x9_1 p258 q258
                                                          (try rw [← Nbq48.out] at hx258_0)
                                                          obtain rfl : ad245 = ad258 := (by injection e258)
                                                          obtain ⟨ce258, hce258, hMe258, hcc258⟩ := Kd.S_get HO_8.out z39 x9_1 p258 (by first | exact q258 | exact of_decide_eq_true (by first | (with_reducible assumption) | assumption) | (have e_ := (Kd.S_reads' HO_8.out).1; omega))
                                                          obtain ⟨ve258_3, rfl, ge258_3⟩ := k39_openM hMe258
                                                          have hv258_3 := hcc258 3 _ rfl
                                                          rw [add_field _ _ 3 (by omega)] at hv258_3
                                                          replace hv258_3 := Option.some.inj (hv258_3.symm.trans hx258_3)
                                                          rw [hv258_3] at ge258_3
                                                          have HL258_3 := Aside0.mk (show Kd.R k36 36 _ _ _ _ ((rd_T39 t241 x9_1).f2) from ge258_3)
                                                          clear hv258_3 ge258_3
                                                          clear hcc258 hce258
                                                          have HR258_3 := Aside0.mk hi258_3
                                                          have HC258_3 := Aside0.mk hl258_3
                                                          clear hi258_3 hl258_3
                                                          replace p258 := eq_true p258
                                                          replace q258 := eq_true q258
                                                          have ea_ := Option.some.inj (hx247_3.symm.trans hx258_3)
                                                          injection ea_ with ea_ en_ ec_
                                                          subst ea_
                                                          subst ec_
                                                          clear en_
                                                          obtain ⟨Ao60, co60, eo60⟩ := Kd.S_slice HO_7.out
                                                          subst eo60
                                                          have p259 : 0 ≤ (x12_3 : Int) := of_decide_eq_true (by first | (with_reducible assumption) | assumption)
                                                          have q259 : x12_3 < (t236.length : Int) := of_decide_eq_true (by first | (with_reducible assumption) | assumption)
                                                          obtain ⟨ad259, A259_0, c259_0, e259, hx259_0, hl259_0, hi259_0⟩ := at_L1 (Kd.S_reads' HO_7.out).2.2 x12_3 p259 q259
                                                          cases e259
                                                          obtain ⟨ce259, hce259, hMe259, hcc259⟩ := Kd.S_get HO_7.out [] x12_3 p259 (by first | exact q259 | exact of_decide_eq_true (by first | (with_reducible assumption) | assumption) | (have e_ := (Kd.S_reads' HO_7.out).1; omega))
                                                          obtain ⟨ve259_0, rfl, ge259_0⟩ := hMe259
                                                          have hv259_0 := hcc259 0 _ rfl
                                                          rw [Nat.add_zero, show ((Kd.slice 3 (Kd.int .i64))).sz = 1 from rfl, Nat.mul_one] at hv259_0
                                                          replace hv259_0 := Option.some.inj (hv259_0.symm.trans hx259_0)
                                                          rw [hv259_0] at ge259_0
                                                          have HL259_0 := Aside0.mk (show Kd.R (Kd.int .i64) 3 _ _ _ _ (rd_L1 t236 x12_3) from ge259_0)
                                                          clear hv259_0 ge259_0
                                                          clear hcc259 hce259
                                                          have HR259_0 := Aside0.mk hi259_0
                                                          have HC259_0 := Aside0.mk hl259_0
                                                          clear hi259_0 hl259_0
                                                          replace p259 := eq_true p259
                                                          replace q259 := eq_true q259
                                                          have p260 : 0 ≤ (x10_2 : Int) := of_decide_eq_true (by first | (with_reducible assumption) | assumption)
                                                          have q260 : x10_2 < ((rd_L1 t236 x12_3).length : Int) := of_decide_eq_true (by first | (with_reducible assumption) | assumption)
                                                          obtain ⟨ad260, e260, hx260_0⟩ := Kd.at_int (by repeat (first | (with_reducible exact HR259_0.out) | (with_reducible refine Kd.C_alloc ?_ _) | (with_reducible refine Kd.C_drewN ?_ _) | (with_reducible refine Kd.C_drew ?_) | exact HR259_0.out)) x10_2 p260 q260
                                                          cases e260
                                                          replace p260 := eq_true p260
                                                          replace q260 := eq_true q260
                                                          have p261 : 0 ≤ (x12_3 : Int) := of_decide_eq_true (by first | (with_reducible assumption) | assumption)
                                                          have q261 : x12_3 < (l1.length : Int) := of_decide_eq_true (by first | (with_reducible assumption) | assumption)
                                                          obtain ⟨ad261, A261_0, c261_0, e261, hx261_0, hl261_0, hi261_0⟩ := at_L9 HR1.out x12_3 p261 q261
                                                          cases e261
                                                          replace hx261_0 := (HB.out.cell (World.block_lt_of_cell? w _ hx261_0)).trans hx261_0
                                                          have HR261_0 := Aside0.mk hi261_0
                                                          have HC261_0 := Aside0.mk hl261_0
                                                          clear hi261_0 hl261_0
                                                          replace p261 := eq_true p261
                                                          replace q261 := eq_true q261
                                                          have p262 : 0 ≤ ((ji54) : Int) := of_decide_eq_true (by first | (with_reducible assumption) | assumption)
                                                          have q262 : (ji54) < ((rd_L9 l1 x12_3).length : Int) := of_decide_eq_true (by first | (with_reducible assumption) | assumption)
                                                          obtain ⟨ad262, e262, hx262_0⟩ := Kd.at_int HR261_0.out (ji54) p262 q262
                                                          cases e262
                                                          replace hx262_0 := (HB.out.cell (World.block_lt_of_cell? w _ hx262_0)).trans hx262_0
                                                          replace p262 := eq_true p262
                                                          replace q262 := eq_true q262
                                                          have p263 : 0 ≤ (x10_2 : Int) := of_decide_eq_true (by first | (with_reducible assumption) | assumption)
                                                          have q263 : x10_2 < (l0.length : Int) := of_decide_eq_true (by first | (with_reducible assumption) | assumption)
                                                          obtain ⟨ad263, e263, hx263_0⟩ := Kd.at_int HR0.out x10_2 p263 q263
                                                          cases e263
                                                          replace hx263_0 := (HB.out.cell (World.block_lt_of_cell? w _ hx263_0)).trans hx263_0
                                                          replace p263 := eq_true p263
                                                          replace q263 := eq_true q263
                                                          go_wp2
                                                          repeat (go_quiet (fail); try go_wp2)
                                                          go_ret
                                                          exact ⟨by first | rfl | (simp [errW_none, errW_some] <;> rfl) | (simp only [← hji54]; first | rfl | (simp [errW_none, errW_some] <;> rfl)) | (simp [*, errW_none, errW_some] <;> rfl), by repeat (first | (with_reducible first | exact HB.out | apply below_alloc | apply pw_below_drewN | apply below_drew1) | exact HB.out)⟩
                                                      · rw [if_neg c57] at H
                                                        exact absurd H (by simp)
                                                    · rw [if_neg c56] at H
                                                      exact absurd H (by simp)
                                                  · rw [if_neg c55] at H
                                                    exact absurd H (by simp)
                                                · rw [if_neg c53] at H
                                                  have c53b0 : ((rd (rd_L1 t236 x12_3) x10_2) == (wrap64 ((wrap64 (((rd_T36 ((rd_T39 t241 x9_1).f2) x12_3).f0) + x10_2)) - ((rd_T39 t241 x9_1).f1.f0)))) = false := beq_eq_false_iff_ne.mpr c53
                                                  have c53b1 : ((rd (rd_L1 t236 x12_3) x10_2) != (wrap64 ((wrap64 (((rd_T36 ((rd_T39 t241 x9_1).f2) x12_3).f0) + x10_2)) - ((rd_T39 t241 x9_1).f1.f0)))) = true := bne_iff_ne.mpr c53
                                                  obtain rfl := Option.some.inj H
                                                  have p247 : 0 ≤ (x9_1 : Int) := of_decide_eq_true (by first | (with_reducible assumption) | assumption)
                                                  have q247 : x9_1 < (t241.length : Int) := of_decide_eq_true (by first | (with_reducible assumption) | assumption)
                                                  obtain ⟨ad247, A247_3, c247_3, e247, hx247_0, hx247_1, hx247_2, hx247_3, hl247_3, hi247_3⟩ := at_T39 (Kd.S_reads' HO_8.out).2.2 x9_1 p247 q247
                                                  (try rw [← Nbq48.out] at hx247_0)
                                                  obtain rfl : ad245 = ad247 := (by injection e247)
                                                  obtain ⟨ce247, hce247, hMe247, hcc247⟩ := Kd.S_get HO_8.out z39 x9_1 p247 (by first | exact q247 | exact of_decide_eq_true (by first | (with_reducible assumption) | assumption) | (have e_ := (Kd.S_reads' HO_8.out).1; omega))
                                                  obtain ⟨ve247_3, rfl, ge247_3⟩ := k39_openM hMe247
                                                  have hv247_3 := hcc247 3 _ rfl
                                                  rw [add_field _ _ 3 (by omega)] at hv247_3
                                                  replace hv247_3 := Option.some.inj (hv247_3.symm.trans hx247_3)
                                                  rw [hv247_3] at ge247_3
                                                  have HL247_3 := Aside0.mk (show Kd.R k36 36 _ _ _ _ ((rd_T39 t241 x9_1).f2) from ge247_3)
                                                  clear hv247_3 ge247_3
                                                  clear hcc247 hce247
                                                  have HR247_3 := Aside0.mk hi247_3
                                                  have HC247_3 := Aside0.mk hl247_3
                                                  clear hi247_3 hl247_3
                                                  replace p247 := eq_true p247
                                                  replace q247 := eq_true q247
                                                  have p248 : 0 ≤ (x12_3 : Int) := of_decide_eq_true (by first | (with_reducible assumption) | assumption)
                                                  have q248 : x12_3 < (((rd_T39 t241 x9_1).f2).length : Int) := of_decide_eq_true (by first | (with_reducible assumption) | assumption)
                                                  obtain ⟨ad248, e248, hx248_0, hx248_1⟩ := at_T36 (by repeat (first | (with_reducible exact HR247_3.out) | (with_reducible refine Kd.C_alloc ?_ _) | (with_reducible refine Kd.C_drewN ?_ _) | (with_reducible refine Kd.C_drew ?_) | exact HR247_3.out)) x12_3 p248 q248
                                                  cases e248
                                                  replace p248 := eq_true p248
                                                  replace q248 := eq_true q248
                                                  have p249 : 0 ≤ (x9_1 : Int) := of_decide_eq_true (by first | (with_reducible assumption) | assumption)
                                                  have q249 : x9_1 < (t241.length : Int) := of_decide_eq_true (by first | (with_reducible assumption) | assumption)
                                                  obtain ⟨ad249, A249_3, c249_3, e249, hx249_0, hx249_1, hx249_2, hx249_3, hl249_3, hi249_3⟩ := at_T39 (Kd.S_reads' HO_8.out).2.2 x9_1 p249 q249
                                                  (try rw [← Nbq48.out] at hx249_0)
                                                  obtain rfl : ad245 = ad249 := (by injection e249)
                                                  obtain ⟨ce249, hce249, hMe249, hcc249⟩ := Kd.S_get HO_8.out z39 x9_1 p249 (by first | exact q249 | exact of_decide_eq_true (by first | (with_reducible assumption) | assumption) | (have e_ := (Kd.S_reads' HO_8.out).1; omega))
                                                  obtain ⟨ve249_3, rfl, ge249_3⟩ := k39_openM hMe249
                                                  have hv249_3 := hcc249 3 _ rfl
                                                  rw [add_field _ _ 3 (by omega)] at hv249_3
                                                  replace hv249_3 := Option.some.inj (hv249_3.symm.trans hx249_3)
                                                  rw [hv249_3] at ge249_3
                                                  have HL249_3 := Aside0.mk (show Kd.R k36 36 _ _ _ _ ((rd_T39 t241 x9_1).f2) from ge249_3)
                                                  clear hv249_3 ge249_3
                                                  clear hcc249 hce249
                                                  have HR249_3 := Aside0.mk hi249_3
                                                  have HC249_3 := Aside0.mk hl249_3
                                                  clear hi249_3 hl249_3
                                                  replace p249 := eq_true p249
                                                  replace q249 := eq_true q249
                                                  have ea_ := Option.some.inj (hx247_3.symm.trans hx249_3)
                                                  injection ea_ with ea_ en_ ec_
                                                  subst ea_
                                                  subst ec_
                                                  clear en_
                                                  have p258 : 0 ≤ (x9_1 : Int) := of_decide_eq_true (by first | (with_reducible assumption) | assumption)
                                                  have q258 : x9_1 < (t241.length : Int) := of_decide_eq_true (by first | (with_reducible assumption) | assumption)
                                                  obtain ⟨ad258, A258_3, c258_3, e258, hx258_0, hx258_1, hx258_2, hx258_3, hl258_3, hi258_3⟩ := at_T39 (Kd.S_reads' HO_8.out).2.2 x9_1 p258 q258
                                                  (try rw [← Nbq48.out] at hx258_0)
                                                  obtain rfl : ad245 = ad258 := (by injection e258)
                                                  obtain ⟨ce258, hce258, hMe258, hcc258⟩ := Kd.S_get HO_8.out z39 x9_1 p258 (by first | exact q258 | exact of_decide_eq_true (by first | (with_reducible assumption) | assumption) | (have e_ := (Kd.S_reads' HO_8.out).1; omega))
                                                  obtain ⟨ve258_3, rfl, ge258_3⟩ := k39_openM hMe258
                                                  have hv258_3 := hcc258 3 _ rfl
                                                  rw [add_field _ _ 3 (by omega)] at hv258_3
                                                  replace hv258_3 := Option.some.inj (hv258_3.symm.trans hx258_3)
                                                  rw [hv258_3] at ge258_3
                                                  have HL258_3 := Aside0.mk (show Kd.R k36 36 _ _ _ _ ((rd_T39 t241 x9_1).f2) from ge258_3)
                                                  clear hv258_3 ge258_3
                                                  clear hcc258 hce258
                                                  have HR258_3 := Aside0.mk hi258_3
                                                  have HC258_3 := Aside0.mk hl258_3
                                                  clear hi258_3 hl258_3
                                                  replace p258 := eq_true p258
                                                  replace q258 := eq_true q258
                                                  have ea_ := Option.some.inj (hx247_3.symm.trans hx258_3)
                                                  injection ea_ with ea_ en_ ec_
                                                  subst ea_
                                                  subst ec_
                                                  clear en_
                                                  obtain ⟨Ao61, co61, eo61⟩ := Kd.S_slice HO_7.out
                                                  subst eo61
                                                  have p259 : 0 ≤ (x12_3 : Int) := of_decide_eq_true (by first | (with_reducible assumption) | assumption)
                                                  have q259 : x12_3 < (t236.length : Int) := of_decide_eq_true (by first | (with_reducible assumption) | assumption)
                                                  obtain ⟨ad259, A259_0, c259_0, e259, hx259_0, hl259_0, hi259_0⟩ := at_L1 (Kd.S_reads' HO_7.out).2.2 x12_3 p259 q259
                                                  cases e259
                                                  obtain ⟨ce259, hce259, hMe259, hcc259⟩ := Kd.S_get HO_7.out [] x12_3 p259 (by first | exact q259 | exact of_decide_eq_true (by first | (with_reducible assumption) | assumption) | (have e_ := (Kd.S_reads' HO_7.out).1; omega))
                                                  obtain ⟨ve259_0, rfl, ge259_0⟩ := hMe259
                                                  have hv259_0 := hcc259 0 _ rfl
                                                  rw [Nat.add_zero, show ((Kd.slice 3 (Kd.int .i64))).sz = 1 from rfl, Nat.mul_one] at hv259_0
                                                  replace hv259_0 := Option.some.inj (hv259_0.symm.trans hx259_0)
                                                  rw [hv259_0] at ge259_0
                                                  have HL259_0 := Aside0.mk (show Kd.R (Kd.int .i64) 3 _ _ _ _ (rd_L1 t236 x12_3) from ge259_0)
                                                  clear hv259_0 ge259_0
                                                  clear hcc259 hce259
                                                  have HR259_0 := Aside0.mk hi259_0
                                                  have HC259_0 := Aside0.mk hl259_0
                                                  clear hi259_0 hl259_0
                                                  replace p259 := eq_true p259
                                                  replace q259 := eq_true q259
                                                  have p260 : 0 ≤ (x10_2 : Int) := of_decide_eq_true (by first | (with_reducible assumption) | assumption)
                                                  have q260 : x10_2 < ((rd_L1 t236 x12_3).length : Int) := of_decide_eq_true (by first | (with_reducible assumption) | assumption)
                                                  obtain ⟨ad260, e260, hx260_0⟩ := Kd.at_int (by repeat (first | (with_reducible exact HR259_0.out) | (with_reducible refine Kd.C_alloc ?_ _) | (with_reducible refine Kd.C_drewN ?_ _) | (with_reducible refine Kd.C_drew ?_) | exact HR259_0.out)) x10_2 p260 q260
                                                  cases e260
                                                  replace p260 := eq_true p260
                                                  replace q260 := eq_true q260
                                                  go_wp2
                                                  repeat (go_quiet (fail); try go_wp2)
                                                  go_ret
                                                  exact ⟨by first | rfl | (simp [errW_none, errW_some] <;> rfl) | (simp [*, errW_none, errW_some] <;> rfl), by repeat (first | (with_reducible first | exact HB.out | apply below_alloc | apply pw_below_drewN | apply below_drew1) | exact HB.out)⟩
                                              · rw [if_neg c52] at H
                                                exact absurd H (by simp)
                                            · rw [if_neg c51] at H
                                              exact absurd H (by simp)
                                          · rw [if_neg c50] at H
                                            exact absurd H (by simp)
                                        · replace c49 := Bool.eq_false_iff.mpr c49
                                          subst c49
                                          have H1 : (sennitlaw05_AlignStable.l2 k3 l0 l1 t227 t236 t241 x9_1 x10_2 false (wrap64 (x12_3 + 1))) = some r := by rw [if_neg (show ¬ (false = true) by decide)] at H; exact H
                                          clear H
                                          have H := H1
                                          clear H1
                                          have H' := Aside0.mk H
                                          clear H
                                          have p247 : 0 ≤ (x9_1 : Int) := of_decide_eq_true (by first | (with_reducible assumption) | assumption)
                                          have q247 : x9_1 < (t241.length : Int) := of_decide_eq_true (by first | (with_reducible assumption) | assumption)
                                          obtain ⟨ad247, A247_3, c247_3, e247, hx247_0, hx247_1, hx247_2, hx247_3, hl247_3, hi247_3⟩ := at_T39 (Kd.S_reads' HO_8.out).2.2 x9_1 p247 q247
                                          (try rw [← Nbq48.out] at hx247_0)
                                          obtain rfl : ad245 = ad247 := (by injection e247)
                                          obtain ⟨ce247, hce247, hMe247, hcc247⟩ := Kd.S_get HO_8.out z39 x9_1 p247 (by first | exact q247 | exact of_decide_eq_true (by first | (with_reducible assumption) | assumption) | (have e_ := (Kd.S_reads' HO_8.out).1; omega))
                                          obtain ⟨ve247_3, rfl, ge247_3⟩ := k39_openM hMe247
                                          have hv247_3 := hcc247 3 _ rfl
                                          rw [add_field _ _ 3 (by omega)] at hv247_3
                                          replace hv247_3 := Option.some.inj (hv247_3.symm.trans hx247_3)
                                          rw [hv247_3] at ge247_3
                                          have HL247_3 := Aside0.mk (show Kd.R k36 36 _ _ _ _ ((rd_T39 t241 x9_1).f2) from ge247_3)
                                          clear hv247_3 ge247_3
                                          clear hcc247 hce247
                                          have HR247_3 := Aside0.mk hi247_3
                                          have HC247_3 := Aside0.mk hl247_3
                                          clear hi247_3 hl247_3
                                          replace p247 := eq_true p247
                                          replace q247 := eq_true q247
                                          have p248 : 0 ≤ (x12_3 : Int) := of_decide_eq_true (by first | (with_reducible assumption) | assumption)
                                          have q248 : x12_3 < (((rd_T39 t241 x9_1).f2).length : Int) := of_decide_eq_true (by first | (with_reducible assumption) | assumption)
                                          obtain ⟨ad248, e248, hx248_0, hx248_1⟩ := at_T36 (by repeat (first | (with_reducible exact HR247_3.out) | (with_reducible refine Kd.C_alloc ?_ _) | (with_reducible refine Kd.C_drewN ?_ _) | (with_reducible refine Kd.C_drew ?_) | exact HR247_3.out)) x12_3 p248 q248
                                          cases e248
                                          replace p248 := eq_true p248
                                          replace q248 := eq_true q248
                                          have p249 : 0 ≤ (x9_1 : Int) := of_decide_eq_true (by first | (with_reducible assumption) | assumption)
                                          have q249 : x9_1 < (t241.length : Int) := of_decide_eq_true (by first | (with_reducible assumption) | assumption)
                                          obtain ⟨ad249, A249_3, c249_3, e249, hx249_0, hx249_1, hx249_2, hx249_3, hl249_3, hi249_3⟩ := at_T39 (Kd.S_reads' HO_8.out).2.2 x9_1 p249 q249
                                          (try rw [← Nbq48.out] at hx249_0)
                                          obtain rfl : ad245 = ad249 := (by injection e249)
                                          obtain ⟨ce249, hce249, hMe249, hcc249⟩ := Kd.S_get HO_8.out z39 x9_1 p249 (by first | exact q249 | exact of_decide_eq_true (by first | (with_reducible assumption) | assumption) | (have e_ := (Kd.S_reads' HO_8.out).1; omega))
                                          obtain ⟨ve249_3, rfl, ge249_3⟩ := k39_openM hMe249
                                          have hv249_3 := hcc249 3 _ rfl
                                          rw [add_field _ _ 3 (by omega)] at hv249_3
                                          replace hv249_3 := Option.some.inj (hv249_3.symm.trans hx249_3)
                                          rw [hv249_3] at ge249_3
                                          have HL249_3 := Aside0.mk (show Kd.R k36 36 _ _ _ _ ((rd_T39 t241 x9_1).f2) from ge249_3)
                                          clear hv249_3 ge249_3
                                          clear hcc249 hce249
                                          have HR249_3 := Aside0.mk hi249_3
                                          have HC249_3 := Aside0.mk hl249_3
                                          clear hi249_3 hl249_3
                                          replace p249 := eq_true p249
                                          replace q249 := eq_true q249
                                          have ea_ := Option.some.inj (hx247_3.symm.trans hx249_3)
                                          injection ea_ with ea_ en_ ec_
                                          subst ea_
                                          subst ec_
                                          clear en_
                                          have p258 : 0 ≤ (x9_1 : Int) := of_decide_eq_true (by first | (with_reducible assumption) | assumption)
                                          have q258 : x9_1 < (t241.length : Int) := of_decide_eq_true (by first | (with_reducible assumption) | assumption)
                                          obtain ⟨ad258, A258_3, c258_3, e258, hx258_0, hx258_1, hx258_2, hx258_3, hl258_3, hi258_3⟩ := at_T39 (Kd.S_reads' HO_8.out).2.2 x9_1 p258 q258
                                          (try rw [← Nbq48.out] at hx258_0)
                                          obtain rfl : ad245 = ad258 := (by injection e258)
                                          obtain ⟨ce258, hce258, hMe258, hcc258⟩ := Kd.S_get HO_8.out z39 x9_1 p258 (by first | exact q258 | exact of_decide_eq_true (by first | (with_reducible assumption) | assumption) | (have e_ := (Kd.S_reads' HO_8.out).1; omega))
                                          obtain ⟨ve258_3, rfl, ge258_3⟩ := k39_openM hMe258
                                          have hv258_3 := hcc258 3 _ rfl
                                          rw [add_field _ _ 3 (by omega)] at hv258_3
                                          replace hv258_3 := Option.some.inj (hv258_3.symm.trans hx258_3)
                                          rw [hv258_3] at ge258_3
                                          have HL258_3 := Aside0.mk (show Kd.R k36 36 _ _ _ _ ((rd_T39 t241 x9_1).f2) from ge258_3)
                                          clear hv258_3 ge258_3
                                          clear hcc258 hce258
                                          have HR258_3 := Aside0.mk hi258_3
                                          have HC258_3 := Aside0.mk hl258_3
                                          clear hi258_3 hl258_3
                                          replace p258 := eq_true p258
                                          replace q258 := eq_true q258
                                          have ea_ := Option.some.inj (hx247_3.symm.trans hx258_3)
                                          injection ea_ with ea_ en_ ec_
                                          subst ea_
                                          subst ec_
                                          clear en_
                                          go_wp2
                                          repeat (go_quiet (fail); try go_wp2)
                                          go_roundg k3
                                          case measure => have := HK1.out; have := HK2.out; have := HK3.out; omega
                                          case rel => exact ⟨(false), (wrap64 (x12_3 + 1)), (by first | rfl | (simp; done) | (simp [*]; done)), (by first | rfl | (simp; done) | (simp [*]; done)), H', ⟨by have := HK1.out; have := HK2.out; have := HK3.out; omega⟩, ⟨by (with_reducible repeat (first | apply Kd.S_alloc | apply Kd.S_drewN | apply Kd.S_drew)); exact HO_7.out⟩, ⟨by (with_reducible repeat (first | apply Kd.S_alloc | apply Kd.S_drewN | apply Kd.S_drew)); exact HO_8.out⟩, ⟨by repeat (first | (with_reducible exact HR245_3.out) | (with_reducible refine Kd.C_alloc ?_ _) | (with_reducible refine Kd.C_drewN ?_ _) | (with_reducible refine Kd.C_drew ?_) | exact HR245_3.out)⟩, ⟨by repeat (first | (with_reducible exact HR246_3.out) | (with_reducible refine Kd.C_alloc ?_ _) | (with_reducible refine Kd.C_drewN ?_ _) | (with_reducible refine Kd.C_drew ?_) | exact HR246_3.out)⟩, ⟨by repeat (first | (with_reducible first | exact HB.out | apply below_alloc | apply pw_below_drewN | apply below_drew1) | exact HB.out)⟩⟩
                                    · rw [if_neg c31] at H
                                      exact absurd H (by simp)
                                  · rw [if_neg c30] at H
                                    exact absurd H (by simp)
                                · rw [if_neg c29] at H
                                  exact absurd H (by simp)
                              · rw [if_neg c28] at H
                                exact absurd H (by simp)
                            · rw [if_neg c27] at H
                              have c27b0 : decide (x12_3 < (l1.length : Int)) = false := decide_eq_false c27
                              clear c27
                              by_cases c62 : 0 ≤ x9_1
                              · rw [if_pos c62] at H
                                have c62b0 : decide (0 ≤ x9_1) = true := decide_eq_true c62
                                clear c62
                                by_cases c63 : x9_1 < (t241.length : Int)
                                · rw [if_pos c63] at H
                                  have c63b0 : decide (x9_1 < (t241.length : Int)) = true := decide_eq_true c63
                                  clear c63
                                  by_cases c64 : (x11_3 != ((rd_T39 t241 x9_1).f0)) = true
                                  · rw [if_pos c64] at H
                                    have c64b0 : (x11_3 != ((rd_T39 t241 x9_1).f0)) = true := c64
                                    (try (have c64b1 : decide (x11_3 = ((rd_T39 t241 x9_1).f0)) = false := by simpa using c64))
                                    (try (have c64b2 : (x11_3 == ((rd_T39 t241 x9_1).f0)) = false := by simpa using c64))
                                    (try (have c64b3 : ¬ (x11_3 = ((rd_T39 t241 x9_1).f0)) := by simpa using c64))
                                    clear c64
                                    obtain rfl := Option.some.inj H
                                    have p264 : 0 ≤ (x9_1 : Int) := of_decide_eq_true (by first | (with_reducible assumption) | assumption)
                                    have q264 : x9_1 < (t241.length : Int) := of_decide_eq_true (by first | (with_reducible assumption) | assumption)
                                    obtain ⟨ad264, A264_3, c264_3, e264, hx264_0, hx264_1, hx264_2, hx264_3, hl264_3, hi264_3⟩ := at_T39 (Kd.S_reads' HO_8.out).2.2 x9_1 p264 q264
                                    obtain rfl : ad245 = ad264 := (by injection e264)
                                    obtain ⟨ce264, hce264, hMe264, hcc264⟩ := Kd.S_get HO_8.out z39 x9_1 p264 (by first | exact q264 | exact of_decide_eq_true (by first | (with_reducible assumption) | assumption) | (have e_ := (Kd.S_reads' HO_8.out).1; omega))
                                    obtain ⟨ve264_3, rfl, ge264_3⟩ := k39_openM hMe264
                                    have hv264_3 := hcc264 3 _ rfl
                                    rw [add_field _ _ 3 (by omega)] at hv264_3
                                    replace hv264_3 := Option.some.inj (hv264_3.symm.trans hx264_3)
                                    rw [hv264_3] at ge264_3
                                    have HL264_3 := Aside0.mk (show Kd.R k36 36 _ _ _ _ ((rd_T39 t241 x9_1).f2) from ge264_3)
                                    clear hv264_3 ge264_3
                                    clear hcc264 hce264
                                    have HR264_3 := Aside0.mk hi264_3
                                    have HC264_3 := Aside0.mk hl264_3
                                    clear hi264_3 hl264_3
                                    replace p264 := eq_true p264
                                    replace q264 := eq_true q264
                                    go_wp2
                                    repeat (go_quiet (fail); try go_wp2)
                                    go_ret
                                    exact ⟨by first | rfl | (simp [errW_none, errW_some] <;> rfl) | (simp [*, errW_none, errW_some] <;> rfl), by repeat (first | (with_reducible first | exact HB.out | apply below_alloc | apply pw_below_drewN | apply below_drew1) | exact HB.out)⟩
                                  · rw [if_neg c64] at H
                                    have c64b0 : (x11_3 != ((rd_T39 t241 x9_1).f0)) = false := by simpa using c64
                                    (try (have c64b1 : decide (x11_3 = ((rd_T39 t241 x9_1).f0)) = true := by simpa using c64))
                                    (try (have c64b2 : (x11_3 == ((rd_T39 t241 x9_1).f0)) = true := by simpa using c64))
                                    clear c64
                                    have H' := Aside0.mk H
                                    clear H
                                    have p264 : 0 ≤ (x9_1 : Int) := of_decide_eq_true (by first | (with_reducible assumption) | assumption)
                                    have q264 : x9_1 < (t241.length : Int) := of_decide_eq_true (by first | (with_reducible assumption) | assumption)
                                    obtain ⟨ad264, A264_3, c264_3, e264, hx264_0, hx264_1, hx264_2, hx264_3, hl264_3, hi264_3⟩ := at_T39 (Kd.S_reads' HO_8.out).2.2 x9_1 p264 q264
                                    obtain rfl : ad245 = ad264 := (by injection e264)
                                    obtain ⟨ce264, hce264, hMe264, hcc264⟩ := Kd.S_get HO_8.out z39 x9_1 p264 (by first | exact q264 | exact of_decide_eq_true (by first | (with_reducible assumption) | assumption) | (have e_ := (Kd.S_reads' HO_8.out).1; omega))
                                    obtain ⟨ve264_3, rfl, ge264_3⟩ := k39_openM hMe264
                                    have hv264_3 := hcc264 3 _ rfl
                                    rw [add_field _ _ 3 (by omega)] at hv264_3
                                    replace hv264_3 := Option.some.inj (hv264_3.symm.trans hx264_3)
                                    rw [hv264_3] at ge264_3
                                    have HL264_3 := Aside0.mk (show Kd.R k36 36 _ _ _ _ ((rd_T39 t241 x9_1).f2) from ge264_3)
                                    clear hv264_3 ge264_3
                                    clear hcc264 hce264
                                    have HR264_3 := Aside0.mk hi264_3
                                    have HC264_3 := Aside0.mk hl264_3
                                    clear hi264_3 hl264_3
                                    replace p264 := eq_true p264
                                    replace q264 := eq_true q264
                                    go_wp2
                                    repeat (go_quiet (fail); try go_wp2)
                                    go_roundg k3
                                    case measure => have := HK1.out; have := HK2.out; have := HK3.out; omega
                                    case rel => exact ⟨(wrap64 (x10_2 + 1)), (by first | rfl | (simp; done) | (simp [*]; done)), H', ⟨by have := HK1.out; have := HK2.out; have := HK3.out; omega⟩, ⟨by (with_reducible repeat (first | apply Kd.S_alloc | apply Kd.S_drewN | apply Kd.S_drew)); exact HO_7.out⟩, ⟨by (with_reducible repeat (first | apply Kd.S_alloc | apply Kd.S_drewN | apply Kd.S_drew)); exact HO_8.out⟩, ⟨by repeat (first | (with_reducible exact HR245_3.out) | (with_reducible refine Kd.C_alloc ?_ _) | (with_reducible refine Kd.C_drewN ?_ _) | (with_reducible refine Kd.C_drew ?_) | exact HR245_3.out)⟩, ⟨by repeat (first | (with_reducible first | exact HB.out | apply below_alloc | apply pw_below_drewN | apply below_drew1) | exact HB.out)⟩⟩
                                · rw [if_neg c63] at H
                                  exact absurd H (by simp)
                              · rw [if_neg c62] at H
                                exact absurd H (by simp)
                      · rw [if_neg c26] at H
                        have c26b0 : decide (x10_2 < ((rd_T39 t241 x9_1).f1.f1)) = false := decide_eq_false c26
                        clear c26
                        have H' := Aside0.mk H
                        clear H
                        have p246 : 0 ≤ (x9_1 : Int) := of_decide_eq_true (by first | (with_reducible assumption) | assumption)
                        have q246 : x9_1 < (t241.length : Int) := of_decide_eq_true (by first | (with_reducible assumption) | assumption)
                        obtain ⟨ad246, A246_3, c246_3, e246, hx246_0, hx246_1, hx246_2, hx246_3, hl246_3, hi246_3⟩ := at_T39 (Kd.S_reads' HO_8.out).2.2 x9_1 p246 q246
                        obtain rfl : ad245 = ad246 := (by injection e246)
                        obtain ⟨ce246, hce246, hMe246, hcc246⟩ := Kd.S_get HO_8.out z39 x9_1 p246 (by first | exact q246 | exact of_decide_eq_true (by first | (with_reducible assumption) | assumption) | (have e_ := (Kd.S_reads' HO_8.out).1; omega))
                        obtain ⟨ve246_3, rfl, ge246_3⟩ := k39_openM hMe246
                        have hv246_3 := hcc246 3 _ rfl
                        rw [add_field _ _ 3 (by omega)] at hv246_3
                        replace hv246_3 := Option.some.inj (hv246_3.symm.trans hx246_3)
                        rw [hv246_3] at ge246_3
                        have HL246_3 := Aside0.mk (show Kd.R k36 36 _ _ _ _ ((rd_T39 t241 x9_1).f2) from ge246_3)
                        clear hv246_3 ge246_3
                        clear hcc246 hce246
                        have HR246_3 := Aside0.mk hi246_3
                        have HC246_3 := Aside0.mk hl246_3
                        clear hi246_3 hl246_3
                        replace p246 := eq_true p246
                        replace q246 := eq_true q246
                        go_wp2
                        repeat (go_quiet (fail); try go_wp2)
                        go_roundg k2
                        case measure => have := HK1.out; have := HK2.out; omega
                        case rel => exact ⟨(wrap64 (x9_1 + 1)), (by first | rfl | (simp; done) | (simp [*]; done)), H', ⟨by have := HK1.out; have := HK2.out; omega⟩, ⟨by (with_reducible repeat (first | apply Kd.S_alloc | apply Kd.S_drewN | apply Kd.S_drew)); exact HO_7.out⟩, ⟨by (with_reducible repeat (first | apply Kd.S_alloc | apply Kd.S_drewN | apply Kd.S_drew)); exact HO_8.out⟩, ⟨by repeat (first | (with_reducible first | exact HB.out | apply below_alloc | apply pw_below_drewN | apply below_drew1) | exact HB.out)⟩⟩
                    · rw [if_neg c25] at H
                      exact absurd H (by simp)
                  · rw [if_neg c24] at H
                    exact absurd H (by simp)
            · rw [if_neg c23] at H
              exact absurd H (by simp)
          · rw [if_neg c22] at H
            have c22b0 : decide (x9_1 < (t241.length : Int)) = false := decide_eq_false c22
            clear c22
            obtain rfl := Option.some.inj H
            go_wp2
            repeat (go_quiet (fail); try go_wp2)
            go_ret
            exact ⟨by first | rfl | (simp [errW_none, errW_some] <;> rfl) | (simp [*, errW_none, errW_some] <;> rfl), by repeat (first | (with_reducible first | exact HB.out | apply below_alloc | apply pw_below_drewN | apply below_drew1) | exact HB.out)⟩
    · replace c11 := Bool.eq_false_iff.mpr c11
      subst c11
      have H1 : (some false) = some r := by rw [if_neg (show ¬ (false = true) by decide)] at H; exact H
      clear H
      have H := H1
      clear H1
      obtain rfl := Option.some.inj H
      go_enter Try.func4, Try.ntmps4
      go_wp2_with (first | (go_at_call 14; (with_reducible refine (sennitlaw05_awake.calls k  t227 _ A3.out).mono ?_); rintro e w65 ⟨rfl, hb⟩; have n0_ := Aside0.mk (below_step (by repeat (first | (with_reducible first | exact HB.out | apply below_alloc | apply pw_below_drewN | apply below_drew1) | exact HB.out)) hb); clear HB; have HB := n0_; clear n0_; (try clear hb); (try clear hb2); (try clear hk); (try clear hi)) | (go_at_call 15; (with_reducible refine (sennitref05_Few.calls k _ _ l0 _ _ l1 true _ ?side1 ?side2 ?side3 ?side4 A4.out).mono ?_); (case side1 => repeat (first | exact (Kd.C_below HR0.out HB.out) | (with_reducible refine Kd.C_alloc ?_ _) | (with_reducible refine Kd.C_drewN ?_ _) | (with_reducible refine Kd.C_drew ?_))); (case side2 => exact HC0.out); (case side3 => repeat (first | exact (Kd.C_below HR1.out HB.out) | (with_reducible refine Kd.C_alloc ?_ _) | (with_reducible refine Kd.C_drewN ?_ _) | (with_reducible refine Kd.C_drew ?_))); (case side4 => exact HC1.out); rintro e w' ⟨rfl, ⟨nd, rfl⟩⟩; (try first | exact ⟨rfl, _, World.drewN_drewN _ _ _⟩ | exact ⟨rfl, _, Eq.trans (World.drewN_drewN _ _ _) (congrArg (World.drewN _) (Nat.add_assoc _ _ _))⟩)) | (go_at_call 20; (with_reducible refine (sennitref03_Ints.calls k _ _ l0 t229 _ ?side1 ?side2 A6.out).mono ?_); (case side1 => repeat (first | exact (Kd.C_below HR0.out (by repeat (first | (with_reducible first | exact HB.out | apply below_alloc | apply pw_below_drewN | apply below_drew1) | exact HB.out))) | (with_reducible refine Kd.C_alloc ?_ _) | (with_reducible refine Kd.C_drewN ?_ _) | (with_reducible refine Kd.C_drew ?_))); (case side2 => exact HC0.out); rintro e w66 ⟨v230, rfl, ho0, hb⟩; have n0_ := Aside0.mk (Kd.R_lower ho0 (below_size (by repeat (first | (with_reducible first | exact HB.out | apply below_alloc | apply pw_below_drewN | apply below_drew1) | exact HB.out)))); have n1_ := Aside0.mk (below_step (by repeat (first | (with_reducible first | exact HB.out | apply below_alloc | apply pw_below_drewN | apply below_drew1) | exact HB.out)) hb); clear HB; have HO231 := n0_; have HB := n1_; clear n0_ n1_; (try clear hb); (try clear hb2); (try clear hk); (try clear hi); (try clear ho0)) | (go_at_call 17; (with_reducible refine (sennitref05_Lists.calls k _ _ l1 t232 _ ?side1 ?side2 A7.out).mono ?_); (case side1 => repeat (first | exact (Kd.C_below HR1.out HB.out) | (with_reducible refine Kd.C_alloc ?_ _) | (with_reducible refine Kd.C_drewN ?_ _) | (with_reducible refine Kd.C_drew ?_))); (case side2 => exact HC1.out); rintro e w67 ⟨v233, rfl, ho0, hb⟩; have n0_ := Aside0.mk (Kd.R_below (by (with_reducible repeat (first | apply Kd.R_alloc | apply Kd.R_drewN | apply Kd.R_drew)); exact HO231.out) hb); have n1_ := Aside0.mk (Kd.S_lower (Kd.S_new' ho0 (Kd.R_lt (by (with_reducible repeat (first | apply Kd.R_alloc | apply Kd.R_drewN | apply Kd.R_drew)); exact HO231.out))) (below_size (by repeat (first | (with_reducible first | exact HB.out | apply below_alloc | apply pw_below_drewN | apply below_drew1) | exact HB.out)))); have n2_ := Aside0.mk (below_step (by repeat (first | (with_reducible first | exact HB.out | apply below_alloc | apply pw_below_drewN | apply below_drew1) | exact HB.out)) hb); clear HO231; clear HB; have HO231 := n0_; have HO234 := n1_; have HB := n2_; clear n0_ n1_ n2_; (try clear hb); (try clear hb2); (try clear hk); (try clear hi); (try clear ho0); obtain ⟨Ao68, co68, eo68⟩ := Kd.R_slice HO231.out; subst eo68; obtain ⟨Ao69, co69, eo69⟩ := Kd.S_slice HO234.out; subst eo69) | (go_at_call 16; (with_reducible refine (sennitref05_Matches.calls k _ _ t229 _ _ t232 t235 t236 _ ?side1 ?side2 ?side3 ?side4 A8.out).mono ?_); (case side1 => repeat (first | exact (Kd.R_reads' HO231.out).2.2 | (with_reducible refine Kd.C_alloc ?_ _) | (with_reducible refine Kd.C_drewN ?_ _) | (with_reducible refine Kd.C_drew ?_))); (case side2 => exact (Kd.R_reads' HO231.out).2.1); (case side3 => repeat (first | exact (Kd.S_reads' HO234.out).2.2 | (with_reducible refine Kd.C_alloc ?_ _) | (with_reducible refine Kd.C_drewN ?_ _) | (with_reducible refine Kd.C_drew ?_))); (case side4 => exact (Kd.S_reads' HO234.out).2.1); rintro e w70 ⟨v237, v239, rfl, ho0, ho1, hb⟩; have n0_ := Aside0.mk (Kd.R_elder' (by (with_reducible repeat (first | apply Kd.R_alloc | apply Kd.R_drewN | apply Kd.R_drew)); exact HO231.out) (Kd.R_base ho0) hb); have n1_ := Aside0.mk (Kd.S_mono (Kd.S_told (Kd.S_told (Kd.S_old (by (with_reducible repeat (first | apply Kd.S_alloc | apply Kd.S_drewN | apply Kd.S_drew)); exact HO234.out) hb) (Kd.R_base ho0)) (Kd.S_base ho1)) (fun _ h_ => h_.1)); have n2_ := Aside0.mk (Kd.R_lower (Kd.R_new' ho0 (Kd.R_lt (by (with_reducible repeat (first | apply Kd.R_alloc | apply Kd.R_drewN | apply Kd.R_drew)); exact HO231.out))) (below_size (by repeat (first | (with_reducible first | exact HB.out | apply below_alloc | apply pw_below_drewN | apply below_drew1) | exact HB.out)))); have n3_ := Aside0.mk (Kd.S_lower (Kd.S_new' (Kd.S_new' ho1 (Kd.R_lt (by (with_reducible repeat (first | apply Kd.R_alloc | apply Kd.R_drewN | apply Kd.R_drew)); exact HO231.out))) (Kd.S_lt (by (with_reducible repeat (first | apply Kd.S_alloc | apply Kd.S_drewN | apply Kd.S_drew)); exact HO234.out))) (below_size (by repeat (first | (with_reducible first | exact HB.out | apply below_alloc | apply pw_below_drewN | apply below_drew1) | exact HB.out)))); have n4_ := Aside0.mk (below_step (by repeat (first | (with_reducible first | exact HB.out | apply below_alloc | apply pw_below_drewN | apply below_drew1) | exact HB.out)) hb); clear HO231; clear HO234; clear HB; have HO231 := n0_; have HO234 := n1_; have HO238 := n2_; have HO240 := n3_; have HB := n4_; clear n0_ n1_ n2_ n3_ n4_; (try clear hb); (try clear hb2); (try clear hk); (try clear hi); (try clear ho0); (try clear ho1)) | (go_at_call 19; (with_reducible refine (sennitlaw05_cut.calls k _ _ l0 _ _ l1 t241 _ ?side1 ?side2 ?side3 ?side4 A9.out).mono ?_); (case side1 => repeat (first | exact (Kd.C_below HR0.out HB.out) | (with_reducible refine Kd.C_alloc ?_ _) | (with_reducible refine Kd.C_drewN ?_ _) | (with_reducible refine Kd.C_drew ?_))); (case side2 => exact HC0.out); (case side3 => repeat (first | exact (Kd.C_below HR1.out HB.out) | (with_reducible refine Kd.C_alloc ?_ _) | (with_reducible refine Kd.C_drewN ?_ _) | (with_reducible refine Kd.C_drew ?_))); (case side4 => exact HC1.out); rintro e w71 ⟨v242, rfl, ho0, hb⟩; have n0_ := Aside0.mk (Kd.R_below (by (with_reducible repeat (first | apply Kd.R_alloc | apply Kd.R_drewN | apply Kd.R_drew)); exact HO231.out) hb); have n1_ := Aside0.mk (Kd.S_below (by (with_reducible repeat (first | apply Kd.S_alloc | apply Kd.S_drewN | apply Kd.S_drew)); exact HO234.out) hb); have n2_ := Aside0.mk (Kd.R_below (by (with_reducible repeat (first | apply Kd.R_alloc | apply Kd.R_drewN | apply Kd.R_drew)); exact HO238.out) hb); have n3_ := Aside0.mk (Kd.S_below (by (with_reducible repeat (first | apply Kd.S_alloc | apply Kd.S_drewN | apply Kd.S_drew)); exact HO240.out) hb); have n4_ := Aside0.mk (Kd.S_lower ho0 (below_size (by repeat (first | (with_reducible first | exact HB.out | apply below_alloc | apply pw_below_drewN | apply below_drew1) | exact HB.out)))); have n5_ := Aside0.mk (below_step (by repeat (first | (with_reducible first | exact HB.out | apply below_alloc | apply pw_below_drewN | apply below_drew1) | exact HB.out)) hb); clear HO231; clear HO234; clear HO238; clear HO240; clear HB; have HO231 := n0_; have HO234 := n1_; have HO238 := n2_; have HO240 := n3_; have HO243 := n4_; have HB := n5_; clear n0_ n1_ n2_ n3_ n4_ n5_; (try clear hb); (try clear hb2); (try clear hk); (try clear hi); (try clear ho0); obtain ⟨Ao72, co72, eo72⟩ := Kd.S_slice HO243.out; subst eo72; obtain ⟨Ao73, co73, eo73⟩ := Kd.R_slice HO238.out; subst eo73) | (go_at_call 18; (with_reducible refine (sennitlaw05_covers.calls k _ _ t241 (l0.length : Int) _ _ t235 false _ ?side1 ?side2 ?side3 ?side4 A10.out).mono ?_); (case side1 => repeat (first | exact (Kd.S_reads' HO243.out).2.2 | (with_reducible refine Kd.C_alloc ?_ _) | (with_reducible refine Kd.C_drewN ?_ _) | (with_reducible refine Kd.C_drew ?_))); (case side2 => exact (Kd.S_reads' HO243.out).2.1); (case side3 => repeat (first | exact (Kd.R_reads' HO238.out).2.2 | (with_reducible refine Kd.C_alloc ?_ _) | (with_reducible refine Kd.C_drewN ?_ _) | (with_reducible refine Kd.C_drew ?_))); (case side4 => exact (Kd.R_reads' HO238.out).2.1); rintro e w74 ⟨rfl, hb⟩; have n0_ := Aside0.mk (Kd.R_below (by (with_reducible repeat (first | apply Kd.R_alloc | apply Kd.R_drewN | apply Kd.R_drew)); exact HO231.out) hb); have n1_ := Aside0.mk (Kd.S_below (by (with_reducible repeat (first | apply Kd.S_alloc | apply Kd.S_drewN | apply Kd.S_drew)); exact HO234.out) hb); have n2_ := Aside0.mk (Kd.R_below (by (with_reducible repeat (first | apply Kd.R_alloc | apply Kd.R_drewN | apply Kd.R_drew)); exact HO238.out) hb); have n3_ := Aside0.mk (Kd.S_below (by (with_reducible repeat (first | apply Kd.S_alloc | apply Kd.S_drewN | apply Kd.S_drew)); exact HO240.out) hb); have n4_ := Aside0.mk (Kd.S_below (by (with_reducible repeat (first | apply Kd.S_alloc | apply Kd.S_drewN | apply Kd.S_drew)); exact HO243.out) hb); have n5_ := Aside0.mk (below_step (by repeat (first | (with_reducible first | exact HB.out | apply below_alloc | apply pw_below_drewN | apply below_drew1) | exact HB.out)) hb); clear HO231; clear HO234; clear HO238; clear HO240; clear HO243; clear HB; have HO231 := n0_; have HO234 := n1_; have HO238 := n2_; have HO240 := n3_; have HO243 := n4_; have HB := n5_; clear n0_ n1_ n2_ n3_ n4_ n5_; (try clear hb); (try clear hb2); (try clear hk); (try clear hi)))
      repeat (go_quiet (first | (go_at_call 14; (with_reducible refine (sennitlaw05_awake.calls k  t227 _ A3.out).mono ?_); rintro e w65 ⟨rfl, hb⟩; have n0_ := Aside0.mk (below_step (by repeat (first | (with_reducible first | exact HB.out | apply below_alloc | apply pw_below_drewN | apply below_drew1) | exact HB.out)) hb); clear HB; have HB := n0_; clear n0_; (try clear hb); (try clear hb2); (try clear hk); (try clear hi)) | (go_at_call 15; (with_reducible refine (sennitref05_Few.calls k _ _ l0 _ _ l1 true _ ?side1 ?side2 ?side3 ?side4 A4.out).mono ?_); (case side1 => repeat (first | exact (Kd.C_below HR0.out HB.out) | (with_reducible refine Kd.C_alloc ?_ _) | (with_reducible refine Kd.C_drewN ?_ _) | (with_reducible refine Kd.C_drew ?_))); (case side2 => exact HC0.out); (case side3 => repeat (first | exact (Kd.C_below HR1.out HB.out) | (with_reducible refine Kd.C_alloc ?_ _) | (with_reducible refine Kd.C_drewN ?_ _) | (with_reducible refine Kd.C_drew ?_))); (case side4 => exact HC1.out); rintro e w' ⟨rfl, ⟨nd, rfl⟩⟩; (try first | exact ⟨rfl, _, World.drewN_drewN _ _ _⟩ | exact ⟨rfl, _, Eq.trans (World.drewN_drewN _ _ _) (congrArg (World.drewN _) (Nat.add_assoc _ _ _))⟩)) | (go_at_call 20; (with_reducible refine (sennitref03_Ints.calls k _ _ l0 t229 _ ?side1 ?side2 A6.out).mono ?_); (case side1 => repeat (first | exact (Kd.C_below HR0.out (by repeat (first | (with_reducible first | exact HB.out | apply below_alloc | apply pw_below_drewN | apply below_drew1) | exact HB.out))) | (with_reducible refine Kd.C_alloc ?_ _) | (with_reducible refine Kd.C_drewN ?_ _) | (with_reducible refine Kd.C_drew ?_))); (case side2 => exact HC0.out); rintro e w66 ⟨v230, rfl, ho0, hb⟩; have n0_ := Aside0.mk (Kd.R_lower ho0 (below_size (by repeat (first | (with_reducible first | exact HB.out | apply below_alloc | apply pw_below_drewN | apply below_drew1) | exact HB.out)))); have n1_ := Aside0.mk (below_step (by repeat (first | (with_reducible first | exact HB.out | apply below_alloc | apply pw_below_drewN | apply below_drew1) | exact HB.out)) hb); clear HB; have HO231 := n0_; have HB := n1_; clear n0_ n1_; (try clear hb); (try clear hb2); (try clear hk); (try clear hi); (try clear ho0)) | (go_at_call 17; (with_reducible refine (sennitref05_Lists.calls k _ _ l1 t232 _ ?side1 ?side2 A7.out).mono ?_); (case side1 => repeat (first | exact (Kd.C_below HR1.out HB.out) | (with_reducible refine Kd.C_alloc ?_ _) | (with_reducible refine Kd.C_drewN ?_ _) | (with_reducible refine Kd.C_drew ?_))); (case side2 => exact HC1.out); rintro e w67 ⟨v233, rfl, ho0, hb⟩; have n0_ := Aside0.mk (Kd.R_below (by (with_reducible repeat (first | apply Kd.R_alloc | apply Kd.R_drewN | apply Kd.R_drew)); exact HO231.out) hb); have n1_ := Aside0.mk (Kd.S_lower (Kd.S_new' ho0 (Kd.R_lt (by (with_reducible repeat (first | apply Kd.R_alloc | apply Kd.R_drewN | apply Kd.R_drew)); exact HO231.out))) (below_size (by repeat (first | (with_reducible first | exact HB.out | apply below_alloc | apply pw_below_drewN | apply below_drew1) | exact HB.out)))); have n2_ := Aside0.mk (below_step (by repeat (first | (with_reducible first | exact HB.out | apply below_alloc | apply pw_below_drewN | apply below_drew1) | exact HB.out)) hb); clear HO231; clear HB; have HO231 := n0_; have HO234 := n1_; have HB := n2_; clear n0_ n1_ n2_; (try clear hb); (try clear hb2); (try clear hk); (try clear hi); (try clear ho0); obtain ⟨Ao68, co68, eo68⟩ := Kd.R_slice HO231.out; subst eo68; obtain ⟨Ao69, co69, eo69⟩ := Kd.S_slice HO234.out; subst eo69) | (go_at_call 16; (with_reducible refine (sennitref05_Matches.calls k _ _ t229 _ _ t232 t235 t236 _ ?side1 ?side2 ?side3 ?side4 A8.out).mono ?_); (case side1 => repeat (first | exact (Kd.R_reads' HO231.out).2.2 | (with_reducible refine Kd.C_alloc ?_ _) | (with_reducible refine Kd.C_drewN ?_ _) | (with_reducible refine Kd.C_drew ?_))); (case side2 => exact (Kd.R_reads' HO231.out).2.1); (case side3 => repeat (first | exact (Kd.S_reads' HO234.out).2.2 | (with_reducible refine Kd.C_alloc ?_ _) | (with_reducible refine Kd.C_drewN ?_ _) | (with_reducible refine Kd.C_drew ?_))); (case side4 => exact (Kd.S_reads' HO234.out).2.1); rintro e w70 ⟨v237, v239, rfl, ho0, ho1, hb⟩; have n0_ := Aside0.mk (Kd.R_elder' (by (with_reducible repeat (first | apply Kd.R_alloc | apply Kd.R_drewN | apply Kd.R_drew)); exact HO231.out) (Kd.R_base ho0) hb); have n1_ := Aside0.mk (Kd.S_mono (Kd.S_told (Kd.S_told (Kd.S_old (by (with_reducible repeat (first | apply Kd.S_alloc | apply Kd.S_drewN | apply Kd.S_drew)); exact HO234.out) hb) (Kd.R_base ho0)) (Kd.S_base ho1)) (fun _ h_ => h_.1)); have n2_ := Aside0.mk (Kd.R_lower (Kd.R_new' ho0 (Kd.R_lt (by (with_reducible repeat (first | apply Kd.R_alloc | apply Kd.R_drewN | apply Kd.R_drew)); exact HO231.out))) (below_size (by repeat (first | (with_reducible first | exact HB.out | apply below_alloc | apply pw_below_drewN | apply below_drew1) | exact HB.out)))); have n3_ := Aside0.mk (Kd.S_lower (Kd.S_new' (Kd.S_new' ho1 (Kd.R_lt (by (with_reducible repeat (first | apply Kd.R_alloc | apply Kd.R_drewN | apply Kd.R_drew)); exact HO231.out))) (Kd.S_lt (by (with_reducible repeat (first | apply Kd.S_alloc | apply Kd.S_drewN | apply Kd.S_drew)); exact HO234.out))) (below_size (by repeat (first | (with_reducible first | exact HB.out | apply below_alloc | apply pw_below_drewN | apply below_drew1) | exact HB.out)))); have n4_ := Aside0.mk (below_step (by repeat (first | (with_reducible first | exact HB.out | apply below_alloc | apply pw_below_drewN | apply below_drew1) | exact HB.out)) hb); clear HO231; clear HO234; clear HB; have HO231 := n0_; have HO234 := n1_; have HO238 := n2_; have HO240 := n3_; have HB := n4_; clear n0_ n1_ n2_ n3_ n4_; (try clear hb); (try clear hb2); (try clear hk); (try clear hi); (try clear ho0); (try clear ho1)) | (go_at_call 19; (with_reducible refine (sennitlaw05_cut.calls k _ _ l0 _ _ l1 t241 _ ?side1 ?side2 ?side3 ?side4 A9.out).mono ?_); (case side1 => repeat (first | exact (Kd.C_below HR0.out HB.out) | (with_reducible refine Kd.C_alloc ?_ _) | (with_reducible refine Kd.C_drewN ?_ _) | (with_reducible refine Kd.C_drew ?_))); (case side2 => exact HC0.out); (case side3 => repeat (first | exact (Kd.C_below HR1.out HB.out) | (with_reducible refine Kd.C_alloc ?_ _) | (with_reducible refine Kd.C_drewN ?_ _) | (with_reducible refine Kd.C_drew ?_))); (case side4 => exact HC1.out); rintro e w71 ⟨v242, rfl, ho0, hb⟩; have n0_ := Aside0.mk (Kd.R_below (by (with_reducible repeat (first | apply Kd.R_alloc | apply Kd.R_drewN | apply Kd.R_drew)); exact HO231.out) hb); have n1_ := Aside0.mk (Kd.S_below (by (with_reducible repeat (first | apply Kd.S_alloc | apply Kd.S_drewN | apply Kd.S_drew)); exact HO234.out) hb); have n2_ := Aside0.mk (Kd.R_below (by (with_reducible repeat (first | apply Kd.R_alloc | apply Kd.R_drewN | apply Kd.R_drew)); exact HO238.out) hb); have n3_ := Aside0.mk (Kd.S_below (by (with_reducible repeat (first | apply Kd.S_alloc | apply Kd.S_drewN | apply Kd.S_drew)); exact HO240.out) hb); have n4_ := Aside0.mk (Kd.S_lower ho0 (below_size (by repeat (first | (with_reducible first | exact HB.out | apply below_alloc | apply pw_below_drewN | apply below_drew1) | exact HB.out)))); have n5_ := Aside0.mk (below_step (by repeat (first | (with_reducible first | exact HB.out | apply below_alloc | apply pw_below_drewN | apply below_drew1) | exact HB.out)) hb); clear HO231; clear HO234; clear HO238; clear HO240; clear HB; have HO231 := n0_; have HO234 := n1_; have HO238 := n2_; have HO240 := n3_; have HO243 := n4_; have HB := n5_; clear n0_ n1_ n2_ n3_ n4_ n5_; (try clear hb); (try clear hb2); (try clear hk); (try clear hi); (try clear ho0); obtain ⟨Ao72, co72, eo72⟩ := Kd.S_slice HO243.out; subst eo72; obtain ⟨Ao73, co73, eo73⟩ := Kd.R_slice HO238.out; subst eo73) | (go_at_call 18; (with_reducible refine (sennitlaw05_covers.calls k _ _ t241 (l0.length : Int) _ _ t235 false _ ?side1 ?side2 ?side3 ?side4 A10.out).mono ?_); (case side1 => repeat (first | exact (Kd.S_reads' HO243.out).2.2 | (with_reducible refine Kd.C_alloc ?_ _) | (with_reducible refine Kd.C_drewN ?_ _) | (with_reducible refine Kd.C_drew ?_))); (case side2 => exact (Kd.S_reads' HO243.out).2.1); (case side3 => repeat (first | exact (Kd.R_reads' HO238.out).2.2 | (with_reducible refine Kd.C_alloc ?_ _) | (with_reducible refine Kd.C_drewN ?_ _) | (with_reducible refine Kd.C_drew ?_))); (case side4 => exact (Kd.R_reads' HO238.out).2.1); rintro e w74 ⟨rfl, hb⟩; have n0_ := Aside0.mk (Kd.R_below (by (with_reducible repeat (first | apply Kd.R_alloc | apply Kd.R_drewN | apply Kd.R_drew)); exact HO231.out) hb); have n1_ := Aside0.mk (Kd.S_below (by (with_reducible repeat (first | apply Kd.S_alloc | apply Kd.S_drewN | apply Kd.S_drew)); exact HO234.out) hb); have n2_ := Aside0.mk (Kd.R_below (by (with_reducible repeat (first | apply Kd.R_alloc | apply Kd.R_drewN | apply Kd.R_drew)); exact HO238.out) hb); have n3_ := Aside0.mk (Kd.S_below (by (with_reducible repeat (first | apply Kd.S_alloc | apply Kd.S_drewN | apply Kd.S_drew)); exact HO240.out) hb); have n4_ := Aside0.mk (Kd.S_below (by (with_reducible repeat (first | apply Kd.S_alloc | apply Kd.S_drewN | apply Kd.S_drew)); exact HO243.out) hb); have n5_ := Aside0.mk (below_step (by repeat (first | (with_reducible first | exact HB.out | apply below_alloc | apply pw_below_drewN | apply below_drew1) | exact HB.out)) hb); clear HO231; clear HO234; clear HO238; clear HO240; clear HO243; clear HB; have HO231 := n0_; have HO234 := n1_; have HO238 := n2_; have HO240 := n3_; have HO243 := n4_; have HB := n5_; clear n0_ n1_ n2_ n3_ n4_ n5_; (try clear hb); (try clear hb2); (try clear hk); (try clear hi))); try go_wp2_with (first | (go_at_call 14; (with_reducible refine (sennitlaw05_awake.calls k  t227 _ A3.out).mono ?_); rintro e w65 ⟨rfl, hb⟩; have n0_ := Aside0.mk (below_step (by repeat (first | (with_reducible first | exact HB.out | apply below_alloc | apply pw_below_drewN | apply below_drew1) | exact HB.out)) hb); clear HB; have HB := n0_; clear n0_; (try clear hb); (try clear hb2); (try clear hk); (try clear hi)) | (go_at_call 15; (with_reducible refine (sennitref05_Few.calls k _ _ l0 _ _ l1 true _ ?side1 ?side2 ?side3 ?side4 A4.out).mono ?_); (case side1 => repeat (first | exact (Kd.C_below HR0.out HB.out) | (with_reducible refine Kd.C_alloc ?_ _) | (with_reducible refine Kd.C_drewN ?_ _) | (with_reducible refine Kd.C_drew ?_))); (case side2 => exact HC0.out); (case side3 => repeat (first | exact (Kd.C_below HR1.out HB.out) | (with_reducible refine Kd.C_alloc ?_ _) | (with_reducible refine Kd.C_drewN ?_ _) | (with_reducible refine Kd.C_drew ?_))); (case side4 => exact HC1.out); rintro e w' ⟨rfl, ⟨nd, rfl⟩⟩; (try first | exact ⟨rfl, _, World.drewN_drewN _ _ _⟩ | exact ⟨rfl, _, Eq.trans (World.drewN_drewN _ _ _) (congrArg (World.drewN _) (Nat.add_assoc _ _ _))⟩)) | (go_at_call 20; (with_reducible refine (sennitref03_Ints.calls k _ _ l0 t229 _ ?side1 ?side2 A6.out).mono ?_); (case side1 => repeat (first | exact (Kd.C_below HR0.out (by repeat (first | (with_reducible first | exact HB.out | apply below_alloc | apply pw_below_drewN | apply below_drew1) | exact HB.out))) | (with_reducible refine Kd.C_alloc ?_ _) | (with_reducible refine Kd.C_drewN ?_ _) | (with_reducible refine Kd.C_drew ?_))); (case side2 => exact HC0.out); rintro e w66 ⟨v230, rfl, ho0, hb⟩; have n0_ := Aside0.mk (Kd.R_lower ho0 (below_size (by repeat (first | (with_reducible first | exact HB.out | apply below_alloc | apply pw_below_drewN | apply below_drew1) | exact HB.out)))); have n1_ := Aside0.mk (below_step (by repeat (first | (with_reducible first | exact HB.out | apply below_alloc | apply pw_below_drewN | apply below_drew1) | exact HB.out)) hb); clear HB; have HO231 := n0_; have HB := n1_; clear n0_ n1_; (try clear hb); (try clear hb2); (try clear hk); (try clear hi); (try clear ho0)) | (go_at_call 17; (with_reducible refine (sennitref05_Lists.calls k _ _ l1 t232 _ ?side1 ?side2 A7.out).mono ?_); (case side1 => repeat (first | exact (Kd.C_below HR1.out HB.out) | (with_reducible refine Kd.C_alloc ?_ _) | (with_reducible refine Kd.C_drewN ?_ _) | (with_reducible refine Kd.C_drew ?_))); (case side2 => exact HC1.out); rintro e w67 ⟨v233, rfl, ho0, hb⟩; have n0_ := Aside0.mk (Kd.R_below (by (with_reducible repeat (first | apply Kd.R_alloc | apply Kd.R_drewN | apply Kd.R_drew)); exact HO231.out) hb); have n1_ := Aside0.mk (Kd.S_lower (Kd.S_new' ho0 (Kd.R_lt (by (with_reducible repeat (first | apply Kd.R_alloc | apply Kd.R_drewN | apply Kd.R_drew)); exact HO231.out))) (below_size (by repeat (first | (with_reducible first | exact HB.out | apply below_alloc | apply pw_below_drewN | apply below_drew1) | exact HB.out)))); have n2_ := Aside0.mk (below_step (by repeat (first | (with_reducible first | exact HB.out | apply below_alloc | apply pw_below_drewN | apply below_drew1) | exact HB.out)) hb); clear HO231; clear HB; have HO231 := n0_; have HO234 := n1_; have HB := n2_; clear n0_ n1_ n2_; (try clear hb); (try clear hb2); (try clear hk); (try clear hi); (try clear ho0); obtain ⟨Ao68, co68, eo68⟩ := Kd.R_slice HO231.out; subst eo68; obtain ⟨Ao69, co69, eo69⟩ := Kd.S_slice HO234.out; subst eo69) | (go_at_call 16; (with_reducible refine (sennitref05_Matches.calls k _ _ t229 _ _ t232 t235 t236 _ ?side1 ?side2 ?side3 ?side4 A8.out).mono ?_); (case side1 => repeat (first | exact (Kd.R_reads' HO231.out).2.2 | (with_reducible refine Kd.C_alloc ?_ _) | (with_reducible refine Kd.C_drewN ?_ _) | (with_reducible refine Kd.C_drew ?_))); (case side2 => exact (Kd.R_reads' HO231.out).2.1); (case side3 => repeat (first | exact (Kd.S_reads' HO234.out).2.2 | (with_reducible refine Kd.C_alloc ?_ _) | (with_reducible refine Kd.C_drewN ?_ _) | (with_reducible refine Kd.C_drew ?_))); (case side4 => exact (Kd.S_reads' HO234.out).2.1); rintro e w70 ⟨v237, v239, rfl, ho0, ho1, hb⟩; have n0_ := Aside0.mk (Kd.R_elder' (by (with_reducible repeat (first | apply Kd.R_alloc | apply Kd.R_drewN | apply Kd.R_drew)); exact HO231.out) (Kd.R_base ho0) hb); have n1_ := Aside0.mk (Kd.S_mono (Kd.S_told (Kd.S_told (Kd.S_old (by (with_reducible repeat (first | apply Kd.S_alloc | apply Kd.S_drewN | apply Kd.S_drew)); exact HO234.out) hb) (Kd.R_base ho0)) (Kd.S_base ho1)) (fun _ h_ => h_.1)); have n2_ := Aside0.mk (Kd.R_lower (Kd.R_new' ho0 (Kd.R_lt (by (with_reducible repeat (first | apply Kd.R_alloc | apply Kd.R_drewN | apply Kd.R_drew)); exact HO231.out))) (below_size (by repeat (first | (with_reducible first | exact HB.out | apply below_alloc | apply pw_below_drewN | apply below_drew1) | exact HB.out)))); have n3_ := Aside0.mk (Kd.S_lower (Kd.S_new' (Kd.S_new' ho1 (Kd.R_lt (by (with_reducible repeat (first | apply Kd.R_alloc | apply Kd.R_drewN | apply Kd.R_drew)); exact HO231.out))) (Kd.S_lt (by (with_reducible repeat (first | apply Kd.S_alloc | apply Kd.S_drewN | apply Kd.S_drew)); exact HO234.out))) (below_size (by repeat (first | (with_reducible first | exact HB.out | apply below_alloc | apply pw_below_drewN | apply below_drew1) | exact HB.out)))); have n4_ := Aside0.mk (below_step (by repeat (first | (with_reducible first | exact HB.out | apply below_alloc | apply pw_below_drewN | apply below_drew1) | exact HB.out)) hb); clear HO231; clear HO234; clear HB; have HO231 := n0_; have HO234 := n1_; have HO238 := n2_; have HO240 := n3_; have HB := n4_; clear n0_ n1_ n2_ n3_ n4_; (try clear hb); (try clear hb2); (try clear hk); (try clear hi); (try clear ho0); (try clear ho1)) | (go_at_call 19; (with_reducible refine (sennitlaw05_cut.calls k _ _ l0 _ _ l1 t241 _ ?side1 ?side2 ?side3 ?side4 A9.out).mono ?_); (case side1 => repeat (first | exact (Kd.C_below HR0.out HB.out) | (with_reducible refine Kd.C_alloc ?_ _) | (with_reducible refine Kd.C_drewN ?_ _) | (with_reducible refine Kd.C_drew ?_))); (case side2 => exact HC0.out); (case side3 => repeat (first | exact (Kd.C_below HR1.out HB.out) | (with_reducible refine Kd.C_alloc ?_ _) | (with_reducible refine Kd.C_drewN ?_ _) | (with_reducible refine Kd.C_drew ?_))); (case side4 => exact HC1.out); rintro e w71 ⟨v242, rfl, ho0, hb⟩; have n0_ := Aside0.mk (Kd.R_below (by (with_reducible repeat (first | apply Kd.R_alloc | apply Kd.R_drewN | apply Kd.R_drew)); exact HO231.out) hb); have n1_ := Aside0.mk (Kd.S_below (by (with_reducible repeat (first | apply Kd.S_alloc | apply Kd.S_drewN | apply Kd.S_drew)); exact HO234.out) hb); have n2_ := Aside0.mk (Kd.R_below (by (with_reducible repeat (first | apply Kd.R_alloc | apply Kd.R_drewN | apply Kd.R_drew)); exact HO238.out) hb); have n3_ := Aside0.mk (Kd.S_below (by (with_reducible repeat (first | apply Kd.S_alloc | apply Kd.S_drewN | apply Kd.S_drew)); exact HO240.out) hb); have n4_ := Aside0.mk (Kd.S_lower ho0 (below_size (by repeat (first | (with_reducible first | exact HB.out | apply below_alloc | apply pw_below_drewN | apply below_drew1) | exact HB.out)))); have n5_ := Aside0.mk (below_step (by repeat (first | (with_reducible first | exact HB.out | apply below_alloc | apply pw_below_drewN | apply below_drew1) | exact HB.out)) hb); clear HO231; clear HO234; clear HO238; clear HO240; clear HB; have HO231 := n0_; have HO234 := n1_; have HO238 := n2_; have HO240 := n3_; have HO243 := n4_; have HB := n5_; clear n0_ n1_ n2_ n3_ n4_ n5_; (try clear hb); (try clear hb2); (try clear hk); (try clear hi); (try clear ho0); obtain ⟨Ao72, co72, eo72⟩ := Kd.S_slice HO243.out; subst eo72; obtain ⟨Ao73, co73, eo73⟩ := Kd.R_slice HO238.out; subst eo73) | (go_at_call 18; (with_reducible refine (sennitlaw05_covers.calls k _ _ t241 (l0.length : Int) _ _ t235 false _ ?side1 ?side2 ?side3 ?side4 A10.out).mono ?_); (case side1 => repeat (first | exact (Kd.S_reads' HO243.out).2.2 | (with_reducible refine Kd.C_alloc ?_ _) | (with_reducible refine Kd.C_drewN ?_ _) | (with_reducible refine Kd.C_drew ?_))); (case side2 => exact (Kd.S_reads' HO243.out).2.1); (case side3 => repeat (first | exact (Kd.R_reads' HO238.out).2.2 | (with_reducible refine Kd.C_alloc ?_ _) | (with_reducible refine Kd.C_drewN ?_ _) | (with_reducible refine Kd.C_drew ?_))); (case side4 => exact (Kd.R_reads' HO238.out).2.1); rintro e w74 ⟨rfl, hb⟩; have n0_ := Aside0.mk (Kd.R_below (by (with_reducible repeat (first | apply Kd.R_alloc | apply Kd.R_drewN | apply Kd.R_drew)); exact HO231.out) hb); have n1_ := Aside0.mk (Kd.S_below (by (with_reducible repeat (first | apply Kd.S_alloc | apply Kd.S_drewN | apply Kd.S_drew)); exact HO234.out) hb); have n2_ := Aside0.mk (Kd.R_below (by (with_reducible repeat (first | apply Kd.R_alloc | apply Kd.R_drewN | apply Kd.R_drew)); exact HO238.out) hb); have n3_ := Aside0.mk (Kd.S_below (by (with_reducible repeat (first | apply Kd.S_alloc | apply Kd.S_drewN | apply Kd.S_drew)); exact HO240.out) hb); have n4_ := Aside0.mk (Kd.S_below (by (with_reducible repeat (first | apply Kd.S_alloc | apply Kd.S_drewN | apply Kd.S_drew)); exact HO243.out) hb); have n5_ := Aside0.mk (below_step (by repeat (first | (with_reducible first | exact HB.out | apply below_alloc | apply pw_below_drewN | apply below_drew1) | exact HB.out)) hb); clear HO231; clear HO234; clear HO238; clear HO240; clear HO243; clear HB; have HO231 := n0_; have HO234 := n1_; have HO238 := n2_; have HO240 := n3_; have HO243 := n4_; have HB := n5_; clear n0_ n1_ n2_ n3_ n4_ n5_; (try clear hb); (try clear hb2); (try clear hk); (try clear hi))))
      go_ret
      exact ⟨by first | rfl | (simp [errW_none, errW_some] <;> rfl) | (simp [*, errW_none, errW_some] <;> rfl), by repeat (first | (with_reducible first | exact HB.out | apply below_alloc | apply pw_below_drewN | apply below_drew1) | exact HB.out)⟩
  · replace c5 := Bool.eq_false_iff.mpr c5
    subst c5
    have H1 : (some t227) = some r := by rw [if_neg (show ¬ (false = true) by decide)] at H; exact H
    clear H
    have H := H1
    clear H1
    obtain rfl := Option.some.inj H
    go_enter Try.func4, Try.ntmps4
    go_wp2_with (first | (go_at_call 14; (with_reducible refine (sennitlaw05_awake.calls k  t227 _ A3.out).mono ?_); rintro e w75 ⟨rfl, hb⟩; have n0_ := Aside0.mk (below_step (by repeat (first | (with_reducible first | exact HB.out | apply below_alloc | apply pw_below_drewN | apply below_drew1) | exact HB.out)) hb); clear HB; have HB := n0_; clear n0_; (try clear hb); (try clear hb2); (try clear hk); (try clear hi)) | (go_at_call 15; (with_reducible refine (sennitref05_Few.calls k _ _ l0 _ _ l1 false _ ?side1 ?side2 ?side3 ?side4 A4.out).mono ?_); (case side1 => repeat (first | exact (Kd.C_below HR0.out HB.out) | (with_reducible refine Kd.C_alloc ?_ _) | (with_reducible refine Kd.C_drewN ?_ _) | (with_reducible refine Kd.C_drew ?_))); (case side2 => exact HC0.out); (case side3 => repeat (first | exact (Kd.C_below HR1.out HB.out) | (with_reducible refine Kd.C_alloc ?_ _) | (with_reducible refine Kd.C_drewN ?_ _) | (with_reducible refine Kd.C_drew ?_))); (case side4 => exact HC1.out); rintro e w' ⟨rfl, ⟨nd, rfl⟩⟩; (try first | exact ⟨rfl, _, World.drewN_drewN _ _ _⟩ | exact ⟨rfl, _, Eq.trans (World.drewN_drewN _ _ _) (congrArg (World.drewN _) (Nat.add_assoc _ _ _))⟩)))
    repeat (go_quiet (first | (go_at_call 14; (with_reducible refine (sennitlaw05_awake.calls k  t227 _ A3.out).mono ?_); rintro e w75 ⟨rfl, hb⟩; have n0_ := Aside0.mk (below_step (by repeat (first | (with_reducible first | exact HB.out | apply below_alloc | apply pw_below_drewN | apply below_drew1) | exact HB.out)) hb); clear HB; have HB := n0_; clear n0_; (try clear hb); (try clear hb2); (try clear hk); (try clear hi)) | (go_at_call 15; (with_reducible refine (sennitref05_Few.calls k _ _ l0 _ _ l1 false _ ?side1 ?side2 ?side3 ?side4 A4.out).mono ?_); (case side1 => repeat (first | exact (Kd.C_below HR0.out HB.out) | (with_reducible refine Kd.C_alloc ?_ _) | (with_reducible refine Kd.C_drewN ?_ _) | (with_reducible refine Kd.C_drew ?_))); (case side2 => exact HC0.out); (case side3 => repeat (first | exact (Kd.C_below HR1.out HB.out) | (with_reducible refine Kd.C_alloc ?_ _) | (with_reducible refine Kd.C_drewN ?_ _) | (with_reducible refine Kd.C_drew ?_))); (case side4 => exact HC1.out); rintro e w' ⟨rfl, ⟨nd, rfl⟩⟩; (try first | exact ⟨rfl, _, World.drewN_drewN _ _ _⟩ | exact ⟨rfl, _, Eq.trans (World.drewN_drewN _ _ _) (congrArg (World.drewN _) (Nat.add_assoc _ _ _))⟩))); try go_wp2_with (first | (go_at_call 14; (with_reducible refine (sennitlaw05_awake.calls k  t227 _ A3.out).mono ?_); rintro e w75 ⟨rfl, hb⟩; have n0_ := Aside0.mk (below_step (by repeat (first | (with_reducible first | exact HB.out | apply below_alloc | apply pw_below_drewN | apply below_drew1) | exact HB.out)) hb); clear HB; have HB := n0_; clear n0_; (try clear hb); (try clear hb2); (try clear hk); (try clear hi)) | (go_at_call 15; (with_reducible refine (sennitref05_Few.calls k _ _ l0 _ _ l1 false _ ?side1 ?side2 ?side3 ?side4 A4.out).mono ?_); (case side1 => repeat (first | exact (Kd.C_below HR0.out HB.out) | (with_reducible refine Kd.C_alloc ?_ _) | (with_reducible refine Kd.C_drewN ?_ _) | (with_reducible refine Kd.C_drew ?_))); (case side2 => exact HC0.out); (case side3 => repeat (first | exact (Kd.C_below HR1.out HB.out) | (with_reducible refine Kd.C_alloc ?_ _) | (with_reducible refine Kd.C_drewN ?_ _) | (with_reducible refine Kd.C_drew ?_))); (case side4 => exact HC1.out); rintro e w' ⟨rfl, ⟨nd, rfl⟩⟩; (try first | exact ⟨rfl, _, World.drewN_drewN _ _ _⟩ | exact ⟨rfl, _, Eq.trans (World.drewN_drewN _ _ _) (congrArg (World.drewN _) (Nat.add_assoc _ _ _))⟩))))
    go_ret
    exact ⟨by first | rfl | (simp [errW_none, errW_some] <;> rfl) | (simp [*, errW_none, errW_some] <;> rfl), by repeat (first | (with_reducible first | exact HB.out | apply below_alloc | apply pw_below_drewN | apply below_drew1) | exact HB.out)⟩

end Go.Proofs.Ytnebadlakmlkkaa.M
namespace Go.Proofs.Ytnebadlakmlkkaa.Pure
open Go.RowKit Go.Proofs.Ytnebadlakmlkkaa.M Go.Proofs.Ytnebadlakmlkkaa.Hand Go.Proofs.YtnebadlakmlkkaaW.PrintWords Go.Proofs.YtnebadlakmlkkaaW.PrintLast Go.Proofs.YtnebadlakmlkkaaW.PrintMore
set_option linter.unusedVariables false
/-- The number that match i gives to place k. -/
def mm (M : List (List Int)) (i k : Nat) : Int := (M.getD i []).getD k 0
/-- What matches must be. -/
structure OkM (M : List (List Int)) (m : Nat) (sizes : List Int) : Prop where
  len : M.length = sizes.length
  pos : 1 ≤ M.length
  row : ∀ i < M.length, (M.getD i []).length = m
  low : ∀ i < M.length, ∀ k < m, -1 ≤ mm M i k
  high : ∀ i < M.length, ∀ k < m, mm M i k < sizes.getD i 0
  nat : ∀ i < M.length, 0 ≤ sizes.getD i 0
  inc : ∀ i < M.length, ∀ j k, j < k → k < m → 0 ≤ mm M i j → 0 ≤ mm M i k → mm M i j < mm M i k

theorem getD_mem {α : Type} (M : List α) (d : α) (i : Nat) (h : i < M.length) : M.getD i d ∈ M := by
  rw [List.getD_eq_getElem?_getD, List.getElem?_eq_getElem h]
  exact List.getElem_mem h
theorem mem_getD {α : Type} (M : List α) (d : α) (x : α) (h : x ∈ M) : ∃ i, i < M.length ∧ M.getD i d = x := by
  obtain ⟨i, hi, e⟩ := List.getElem_of_mem h
  exact ⟨i, hi, by rw [List.getD_eq_getElem?_getD, List.getElem?_eq_getElem hi, ← e]; rfl⟩
theorem ext_getD {α : Type} (d : α) (a b : List α) (hl : a.length = b.length) (h : ∀ i < a.length, a.getD i d = b.getD i d) : a = b := by
  refine List.ext_getElem hl fun i h1 h2 => ?_
  have := h i h1
  rwa [List.getD_eq_getElem?_getD, List.getD_eq_getElem?_getD, List.getElem?_eq_getElem h1, List.getElem?_eq_getElem h2] at this
theorem map_getD {α β : Type} (f : α → β) (d : α) (e : β) (l : List α) (i : Nat) (h : i < l.length) : (l.map f).getD i e = f (l.getD i d) := by
  rw [List.getD_eq_getElem?_getD, List.getD_eq_getElem?_getD, List.getElem?_map, List.getElem?_eq_getElem h]
  rfl
theorem stab_iff (M : List (List Int)) (k : Nat) : stabB M k = true ↔ ∀ i < M.length, 0 ≤ mm M i k := by
  simp only [stabB, List.all_eq_true, Bool.not_eq_true', decide_eq_false_iff_not]
  constructor
  · intro h i hi
    have := h _ (getD_mem M [] i hi)
    unfold mm
    omega
  · intro h l hl
    obtain ⟨i, hi, rfl⟩ := mem_getD M [] l hl
    have := h i hi
    unfold mm at this
    omega
theorem cont_iff (M : List (List Int)) (k : Nat) : contB M k = true ↔ ∀ i < M.length, 0 ≤ mm M i k ∧ mm M i k = mm M i (k - 1) + 1 := by
  simp only [contB, List.all_eq_true, Bool.and_eq_true, Bool.not_eq_true', decide_eq_false_iff_not, decide_eq_true_eq]
  constructor
  · intro h i hi
    have := h _ (getD_mem M [] i hi)
    unfold mm
    omega
  · intro h l hl
    obtain ⟨i, hi, rfl⟩ := mem_getD M [] l hl
    have := h i hi
    unfold mm at this
    omega
theorem atG_get (M : List (List Int)) (k : Nat) (more : Int) (i : Nat) (h : i < M.length) : (atG M k more).getD i 0 = mm M i k + more := by
  unfold atG mm
  rw [map_getD _ [] 0 M i h]
theorem spans_len (a b : List Int) (h : a.length = b.length) : (spans a b).length = a.length := by simp [spans, h]
theorem spans_get (a b : List Int) (i : Nat) (h : i < a.length) (h' : i < b.length) : (spans a b).getD i z36 = ⟨a.getD i 0, b.getD i 0⟩ := by
  unfold spans
  simp [List.getD_eq_getElem?_getD, List.getElem?_zipWith, List.getElem?_eq_getElem h, List.getElem?_eq_getElem h']
theorem some_iff (b b' : Int) (a a' : List Int) (h : a.length = a'.length) : someB b b' a a' = true ↔ (b < b' ∨ ∃ i, i < a.length ∧ a.getD i 0 < a'.getD i 0) := by
  simp only [someB, Bool.or_eq_true, decide_eq_true_eq, List.any_eq_true]
  refine or_congr Iff.rfl ⟨?_, ?_⟩
  · rintro ⟨p, hp, hlt⟩
    obtain ⟨i, hi, e⟩ := List.getElem_of_mem hp
    rw [List.length_zip] at hi
    refine ⟨i, by omega, ?_⟩
    rw [List.getElem_zip] at e
    subst e
    simp only [List.getD_eq_getElem?_getD, List.getElem?_eq_getElem (show i < a.length by omega), List.getElem?_eq_getElem (show i < a'.length by omega), Option.getD_some]
    exact hlt
  · rintro ⟨i, hi, hlt⟩
    simp only [List.getD_eq_getElem?_getD, List.getElem?_eq_getElem (show i < a.length by omega), List.getElem?_eq_getElem (show i < a'.length by omega), Option.getD_some] at hlt
    exact ⟨(a[i], a'[i]), by rw [← List.getElem_zip (h := by rw [List.length_zip]; omega)]; exact List.getElem_mem _, hlt⟩
def tos (c : S39) : List Int := c.f2.map (fun s => s.f1)
theorem tos_get (c : S39) (i : Nat) (h : i < c.f2.length) : (tos c).getD i 0 = (c.f2.getD i z36).f1 := map_getD _ z36 0 _ _ h
theorem tos_len (c : S39) : (tos c).length = c.f2.length := by simp [tos]

/-- A chunk that may follow where base place b, and sides' places a, are reached. -/
structure Ok1 (M : List (List Int)) (b : Int) (a : List Int) (c : S39) : Prop where
  hb : c.f1.f0 = b
  hlen : c.f2.length = a.length
  hf : ∀ i < a.length, (c.f2.getD i z36).f0 = a.getD i 0
  hle : b ≤ c.f1.f1
  hsl : ∀ i < a.length, a.getD i 0 ≤ (c.f2.getD i z36).f1
  hne : b < c.f1.f1 ∨ ∃ i, i < a.length ∧ a.getD i 0 < (c.f2.getD i z36).f1
  hst : c.f0 = true → ∀ i < a.length, (c.f2.getD i z36).f1 - a.getD i 0 = c.f1.f1 - b
  hk : ∀ k : Nat, b ≤ k → (k : Int) < c.f1.f1 → stabB M k = c.f0 ∧ (c.f0 = true → ∀ i < a.length, mm M i k = a.getD i 0 + k - b)
/-- A list of chunks that leads from there to the end. -/
def Fits (M : List (List Int)) (m : Nat) (sizes : List Int) : Int → List Int → Option Bool → List S39 → Prop
  | b, a, _, [] => b = m ∧ a = sizes
  | b, a, p, c :: t => Ok1 M b a c ∧ p ≠ some c.f0 ∧ Fits M m sizes c.f1.f1 (tos c) (some c.f0) t

theorem fits_end {M : List (List Int)} {m : Nat} {sizes : List Int} : ∀ (l : List S39) (b : Int) (a : List Int) (p : Option Bool), Fits M m sizes b a p l → b ≤ m ∧ a.length = sizes.length ∧ ∀ i < a.length, a.getD i 0 ≤ sizes.getD i 0
  | [], b, a, p, h => by
    obtain ⟨rfl, rfl⟩ := h
    exact ⟨Int.le_refl _, rfl, fun _ _ => Int.le_refl _⟩
  | c :: t, b, a, p, h => by
    obtain ⟨h1, _, h2⟩ := h
    obtain ⟨q1, q2, q3⟩ := fits_end t _ _ _ h2
    rw [tos_len, h1.hlen] at q2
    refine ⟨Int.le_trans h1.hle q1, q2, fun i hi => ?_⟩
    have := q3 i (by rw [tos_len, h1.hlen]; exact hi)
    rw [tos_get _ _ (by rw [h1.hlen]; exact hi)] at this
    exact Int.le_trans (h1.hsl i hi) this
/-- A stable chunk is not empty of base places. -/
theorem ok_base {M : List (List Int)} {b : Int} {a : List Int} {c : S39} (h : Ok1 M b a c) (hs : c.f0 = true) : b < c.f1.f1 := by
  rcases h.hne with h1 | ⟨i, hi, h1⟩
  · exact h1
  · have := h.hst hs i hi
    omega
/-- What stands at the first place of a list: from b on. -/
theorem head_stab {M : List (List Int)} {m : Nat} {sizes : List Int} {b : Nat} {a : List Int} {p : Option Bool} {l : List S39} (h : Fits M m sizes b a p l) (hp : p = some false) (hm : (b : Int) < m) :
    stabB M b = true ∧ ∀ i < a.length, mm M i b = a.getD i 0 := by
  match l, h with
  | [], h => obtain ⟨hb, _⟩ := h; omega
  | c :: t, ⟨h1, h2, h3⟩ =>
    have hc : c.f0 = true := by subst hp; cases hc : c.f0 <;> simp_all
    have hk := h1.hk b (Int.le_refl _) (ok_base h1 hc)
    refine ⟨hk.1.trans hc, fun i hi => ?_⟩
    have := hk.2 hc i hi
    omega
/-- Behind a stable chunk: the next place is not stable, or else some side goes on elsewhere. -/
theorem head_not {M : List (List Int)} {m : Nat} {sizes : List Int} {b : Nat} {a : List Int} {p : Option Bool} {l : List S39} (h : Fits M m sizes b a p l) (hp : p = some true) (hm : (b : Int) < m) (hs : stabB M b = true) :
    ¬ ∀ i < a.length, mm M i b = a.getD i 0 := by
  match l, h with
  | [], h => obtain ⟨hb, _⟩ := h; omega
  | c :: t, ⟨h1, h2, h3⟩ =>
    have hc : c.f0 = false := by subst hp; cases hc : c.f0 <;> simp_all
    intro hall
    by_cases hb : (b : Int) < c.f1.f1
    · have hk := h1.hk b (Int.le_refl _) hb
      rw [hc, hs] at hk
      exact absurd hk.1 (by decide)
    · have he : c.f1.f1 = b := by have := h1.hle; omega
      rw [he, hc] at h3
      have := head_stab h3 rfl hm
      rcases h1.hne with h4 | ⟨i, hi, h4⟩
      · omega
      · have h5 := this.2 i (by rw [tos_len, h1.hlen]; exact hi)
        rw [tos_get _ _ (by rw [h1.hlen]; exact hi), hall i hi] at h5
        omega
/-- THE COARSEST: there is one such list. -/
theorem fits_uniq {M : List (List Int)} {m : Nat} {sizes : List Int} : ∀ (l l' : List S39) (b : Nat) (a : List Int) (p p' : Option Bool), Fits M m sizes b a p l → Fits M m sizes b a p' l' → l = l'
  | [], [], _, _, _, _, _, _ => rfl
  | [], c :: t, b, a, p, p', h, h' => by
    obtain ⟨hb, rfl⟩ := h
    obtain ⟨h1, _, h2⟩ := h'
    obtain ⟨q1, q2, q3⟩ := fits_end t _ _ _ h2
    rcases h1.hne with h3 | ⟨i, hi, h3⟩
    · omega
    · have := q3 i (by rw [tos_len, h1.hlen]; exact hi)
      rw [tos_get _ _ (by rw [h1.hlen]; exact hi)] at this
      omega
  | c :: t, [], b, a, p, p', h', h => by
    obtain ⟨hb, rfl⟩ := h
    obtain ⟨h1, _, h2⟩ := h'
    obtain ⟨q1, q2, q3⟩ := fits_end t _ _ _ h2
    rcases h1.hne with h3 | ⟨i, hi, h3⟩
    · omega
    · have := q3 i (by rw [tos_len, h1.hlen]; exact hi)
      rw [tos_get _ _ (by rw [h1.hlen]; exact hi)] at this
      omega
  | c :: t, c' :: t', b, a, p, p', h, h' => by
    obtain ⟨h1, h2, h3⟩ := h
    obtain ⟨h1', h2', h3'⟩ := h'
    have e1 := (fits_end t _ _ _ h3).1
    have e1' := (fits_end t' _ _ _ h3').1
    obtain ⟨e, he⟩ : ∃ e : Nat, c.f1.f1 = e := ⟨c.f1.f1.toNat, by have := h1.hle; omega⟩
    obtain ⟨e', he'⟩ : ∃ e' : Nat, c'.f1.f1 = e' := ⟨c'.f1.f1.toNat, by have := h1'.hle; omega⟩
    -- one that is stable, and one that isn't
    have key : ∀ (c c' : S39) (t' : List S39) (e e' : Nat), Ok1 M b a c → Ok1 M b a c' → Fits M m sizes c'.f1.f1 (tos c') (some c'.f0) t' → c.f1.f1 = e → c'.f1.f1 = e' → e ≤ m → c.f0 = true → c'.f0 = false → False := by
      intro c c' t' e e' g1 g1' g3' he he' em hc hc'
      have hb := ok_base g1 hc
      have hk := g1.hk b (Int.le_refl _) hb
      by_cases hb' : (b : Int) < c'.f1.f1
      · have := (g1'.hk b (Int.le_refl _) hb').1
        rw [hc', hk.1, hc] at this
        exact absurd this (by decide)
      · have hee : c'.f1.f1 = b := by have := g1'.hle; omega
        rw [hee, hc'] at g3'
        have hh := head_stab g3' rfl (by omega)
        rcases g1'.hne with h4 | ⟨i, hi, h4⟩
        · omega
        · have h5 := hh.2 i (by rw [tos_len, g1'.hlen]; exact hi)
          rw [tos_get _ _ (by rw [g1'.hlen]; exact hi)] at h5
          have := hk.2 hc i hi
          omega
    have hflag : c.f0 = c'.f0 := by
      cases hc : c.f0 <;> cases hc' : c'.f0 <;> try rfl
      · exact (key c' c t e' e h1' h1 h3 he' he (by omega) hc' hc).elim
      · exact (key c c' t' e e' h1 h1' h3' he he' (by omega) hc hc').elim
    -- the shorter one of two
    have short : ∀ (c c' : S39) (t : List S39) (e e' : Nat), Ok1 M b a c → Ok1 M b a c' → Fits M m sizes c.f1.f1 (tos c) (some c.f0) t → c.f1.f1 = e → c'.f1.f1 = e' → e' ≤ m → c.f0 = c'.f0 → ¬ e < e' := by
      intro c c' t e e' g1 g1' g3 he he' em hcc hlt
      have hk := g1'.hk e (by have := g1.hle; omega) (by omega)
      rw [he] at g3
      cases hc : c.f0 with
      | true =>
        rw [hc] at g3
        refine head_not g3 rfl (by omega) (by rw [hk.1, ← hcc, hc]) fun i hi => ?_
        rw [tos_len] at hi
        rw [tos_get _ _ hi]
        rw [g1.hlen] at hi
        have q1 := hk.2 (by rw [← hcc, hc]) i hi
        have q2 := g1.hst hc i hi
        omega
      | false =>
        rw [hc] at g3
        have := (head_stab g3 rfl (by omega)).1
        rw [hk.1, ← hcc, hc] at this
        exact absurd this (by decide)
    have hee : e = e' := by
      have q1 := short c c' t e e' h1 h1' h3 he he' (by omega) hflag
      have q2 := short c' c t' e' e h1' h1 h3' he' he (by omega) hflag.symm
      omega
    subst hee
    have hl : c.f2.length = c'.f2.length := h1.hlen.trans h1'.hlen.symm
    have hto : ∀ i < a.length, (c.f2.getD i z36).f1 = (c'.f2.getD i z36).f1 := by
      intro i hi
      cases hc : c.f0 with
      | true =>
        have q1 := h1.hst hc i hi
        have q2 := h1'.hst (by rw [← hflag, hc]) i hi
        omega
      | false =>
        have hc' : c'.f0 = false := by rw [← hflag, hc]
        rw [he, hc] at h3
        rw [he', hc'] at h3'
        have i1 : i < (tos c).length := by rw [tos_len, h1.hlen]; exact hi
        have i2 : i < (tos c').length := by rw [tos_len, h1'.hlen]; exact hi
        rw [← tos_get _ _ (by rw [h1.hlen]; exact hi), ← tos_get _ _ (by rw [h1'.hlen]; exact hi)]
        by_cases hem : (e : Int) < m
        · rw [← (head_stab h3 rfl hem).2 i i1, ← (head_stab h3' rfl hem).2 i i2]
        · have last : ∀ (u : List S39) (x : S39), Fits M m sizes e (tos x) (some false) u → tos x = sizes := by
            intro u x hu
            match u, hu with
            | [], hu => exact hu.2
            | y :: u, ⟨g1, g2, g3⟩ =>
              have hy : y.f0 = true := by cases hy : y.f0 <;> simp_all
              have := ok_base g1 hy
              have := (fits_end u _ _ _ g3).1
              omega
          rw [last t c h3, last t' c' h3']
    have hcc : c = c' := by
      obtain ⟨s, ⟨x, y⟩, f⟩ := c
      obtain ⟨s', ⟨x', y'⟩, f'⟩ := c'
      simp only [S39.mk.injEq, S36.mk.injEq]
      refine ⟨hflag, ⟨h1.hb.trans h1'.hb.symm, he.trans he'.symm⟩, ext_getD z36 _ _ hl fun i hi => ?_⟩
      have hi' : i < a.length := by rw [← h1.hlen]; exact hi
      have q1 := (h1.hf i hi').trans (h1'.hf i hi').symm
      have q2 := hto i hi'
      generalize ha : List.getD f i z36 = u at q1 q2
      generalize hb : List.getD f' i z36 = v at q1 q2
      obtain ⟨u0, u1⟩ := u
      obtain ⟨v0, v1⟩ := v
      simp_all
    subst hcc
    rw [he] at h3 h3'
    rw [fits_uniq t t' e _ _ _ h3 h3']

/-- What leads from the beginning to where b, and a, are reached. -/
def Reach (M : List (List Int)) (m : Nat) (sizes : List Int) (out : List S39) (b : Int) (a : List Int) (p : Option Bool) : Prop :=
  ∀ l, Fits M m sizes b a p l → Fits M m sizes 0 (List.replicate sizes.length 0) none (out ++ l)
theorem reach_snoc {M : List (List Int)} {m : Nat} {sizes : List Int} {out : List S39} {b : Int} {a : List Int} {p : Option Bool} (h : Reach M m sizes out b a p) (c : S39) (hc : Ok1 M b a c) (hp : p ≠ some c.f0) :
    Reach M m sizes (out ++ [c]) c.f1.f1 (tos c) (some c.f0) := fun l hl => by
  rw [List.append_assoc]
  exact h _ ⟨hc, hp, hl⟩
theorem tos_spans (st : Bool) (x : S36) (a b : List Int) (h : a.length = b.length) : tos ⟨st, x, spans a b⟩ = b := by
  refine ext_getD 0 _ _ (by rw [tos_len]; show (spans a b).length = _; rw [spans_len _ _ h, h]) fun i hi => ?_
  rw [tos_get _ _ (by simpa [tos] using hi)]
  have h1 : i < a.length := by rw [tos_len] at hi; have : (spans a b).length = a.length := spans_len _ _ h; exact this ▸ hi
  show ((spans a b).getD i z36).f1 = _
  rw [spans_get a b i h1 (by omega)]

/-- A cut up to b' and a' (none ahead of where it begins): a chunk, or nothing. -/
theorem cut_step {M : List (List Int)} {m : Nat} {sizes : List Int} {s : CutSt} {b : Nat} {p : Option Bool} (hs : s.base = b) (h : Reach M m sizes s.out b s.at_ p) (st : Bool) (b' : Nat) (a' : List Int) (hl : s.at_.length = a'.length) (hb : b ≤ b')
    (ha : ∀ i < s.at_.length, s.at_.getD i 0 ≤ a'.getD i 0) (hp : p ≠ some st) (hst : st = true → ∀ i < s.at_.length, a'.getD i 0 - s.at_.getD i 0 = b' - b)
    (hk : ∀ k, b ≤ k → k < b' → stabB M k = st ∧ (st = true → ∀ i < s.at_.length, mm M i k = s.at_.getD i 0 + k - b)) :
    (Reach M m sizes (toG s st b' a').out b' a' (some st) ∧ someB s.base b' s.at_ a' = true) ∨ (b' = b ∧ a' = s.at_ ∧ (toG s st b' a').out = s.out) := by
  by_cases hq : someB s.base b' s.at_ a' = true
  · left
    refine ⟨?_, hq⟩
    simp only [toG]
    rw [if_pos hq]
    have hg : ∀ i < s.at_.length, (spans s.at_ a').getD i z36 = ⟨s.at_.getD i 0, a'.getD i 0⟩ := fun i hi => spans_get _ _ i hi (by omega)
    have hok : Ok1 M b s.at_ ⟨st, ⟨s.base, b'⟩, spans s.at_ a'⟩ := by
      refine ⟨(show ((s.base : Nat) : Int) = b by rw [hs]), spans_len _ _ hl, fun i hi => ?_, by show (b : Int) ≤ (b' : Int); omega, fun i hi => ?_, ?_, fun hc i hi => ?_, fun k h1 h2 => ?_⟩
      · show ((spans s.at_ a').getD i z36).f0 = _
        rw [hg i hi]
      · show _ ≤ ((spans s.at_ a').getD i z36).f1
        rw [hg i hi]
        exact ha i hi
      · rw [some_iff _ _ _ _ hl, hs] at hq
        rcases hq with hq | ⟨i, hi, hq⟩
        · exact .inl hq
        · refine .inr ⟨i, hi, ?_⟩
          show _ < ((spans s.at_ a').getD i z36).f1
          rw [hg i hi]
          exact hq
      · show ((spans s.at_ a').getD i z36).f1 - _ = _
        rw [hg i hi]
        exact hst hc i hi
      · exact hk k (by omega) (by have : (k : Int) < b' := h2; omega)
    have := reach_snoc h ⟨st, ⟨s.base, b'⟩, spans s.at_ a'⟩ hok hp
    rw [tos_spans _ _ _ _ hl] at this
    exact this
  · right
    have hn := mt (some_iff s.base b' s.at_ a' hl).2 hq
    have h1 : ¬ ((s.base : Int) < b') := fun h => hn (.inl h)
    refine ⟨by omega, ext_getD 0 _ _ hl.symm fun i hi => ?_, by simp only [toG]; rw [if_neg hq]⟩
    have h2 : ¬ (s.at_.getD i 0 < a'.getD i 0) := fun h => hn (.inr ⟨i, by omega, h⟩)
    have := ha i (by omega)
    omega

theorem run_le (M : List (List Int)) : ∀ d e, e ≤ runF M d e ∧ runF M d e ≤ e + d
  | 0, e => ⟨Nat.le_refl _, Nat.le_refl _⟩
  | d + 1, e => by
    simp only [runF]
    split
    · have := run_le M d (e + 1)
      omega
    · omega
theorem runF_in (M : List (List Int)) : ∀ d e j, e ≤ j → j < runF M d e → contB M j = true
  | 0, e, j, h1, h2 => by simp only [runF] at h2; omega
  | d + 1, e, j, h1, h2 => by
    simp only [runF] at h2
    split at h2
    · rename_i hc
      rcases Nat.lt_or_ge e j with h | h
      · exact runF_in M d (e + 1) j h h2
      · obtain rfl : j = e := by omega
        exact hc
    · omega
theorem run_out (M : List (List Int)) : ∀ d e, runF M d e < e + d → contB M (runF M d e) = false
  | 0, e, h => by simp only [runF] at h; omega
  | d + 1, e, h => by
    simp only [runF] at h ⊢
    split
    · rename_i hc
      rw [if_pos hc] at h
      exact run_out M d (e + 1) (by omega)
    · rename_i hc
      exact Bool.eq_false_iff.2 hc
theorem run_val (M : List (List Int)) (k e : Nat) (h : ∀ j, k + 1 ≤ j → j < e → contB M j = true) (hs : stabB M k = true) : ∀ d, k + d < e → stabB M (k + d) = true ∧ ∀ i < M.length, mm M i (k + d) = mm M i k + d
  | 0, _ => ⟨hs, fun i _ => by simp⟩
  | d + 1, hd => by
    have ih := run_val M k e h hs d (by omega)
    have hc := (cont_iff M (k + (d + 1))).1 (h _ (by omega) hd)
    refine ⟨(stab_iff M _).2 fun i hi => (hc i hi).1, fun i hi => ?_⟩
    have h1 := (hc i hi).2
    rw [show k + (d + 1) - 1 = k + d from by omega, ih.2 i hi] at h1
    rw [h1]
    omega

structure Inv (M : List (List Int)) (m : Nat) (sizes : List Int) (k : Nat) (s : CutSt) : Prop where
  km : k ≤ m
  len : s.at_.length = M.length
  ex : ∃ (b : Nat) (p : Option Bool), s.base = b ∧ b ≤ k ∧ Reach M m sizes s.out b s.at_ p ∧ (∀ j, b ≤ j → j < k → stabB M j = false) ∧
    ((b = 0 ∧ s.at_ = List.replicate sizes.length 0 ∧ p = none) ∨ (p = some true ∧ 0 < b ∧ stabB M (b - 1) = true ∧ s.at_ = atG M (b - 1) 1 ∧ (b < m → contB M b = false)))
theorem inv_skip {M : List (List Int)} {m : Nat} {sizes : List Int} {k : Nat} {s : CutSt} (h : Inv M m sizes k s) (hk : k < m) (hs : ¬ stabB M k = true) : Inv M m sizes (k + 1) s := by
  obtain ⟨h1, h2, b, p, q1, q2, q3, q4, q5⟩ := h
  refine ⟨hk, h2, b, p, q1, by omega, q3, fun j hj hj2 => ?_, q5⟩
  rcases Nat.lt_or_ge j k with h | h
  · exact q4 j hj h
  · obtain rfl : j = k := by omega
    exact Bool.eq_false_iff.2 hs
theorem rep_get (n : Nat) (i : Nat) : (List.replicate n (0 : Int)).getD i 0 = 0 := by
  rw [List.getD_eq_getElem?_getD, List.getElem?_replicate]
  split <;> rfl
theorem toG_base (s : CutSt) (st : Bool) (b : Nat) (a : List Int) : (toG s st b a).base = b := rfl
theorem toG_at (s : CutSt) (st : Bool) (b : Nat) (a : List Int) : (toG s st b a).at_ = a := rfl
theorem inv_run {M : List (List Int)} {m : Nat} {sizes : List Int} (ok : OkM M m sizes) {k : Nat} {s : CutSt} (h : Inv M m sizes k s) (hk : k < m) (hs : stabB M k = true) :
    Inv M m sizes (endG M m k) (toG (toG s false k (atG M k 0)) true (endG M m k) (atG M (endG M m k - 1) 1)) := by
  obtain ⟨h1, h2, b, p, q1, q2, q3, q4, q5⟩ := h
  have hlen : s.at_.length = (atG M k 0).length := by rw [h2, atG_len]
  have hsk := (stab_iff M k).1 hs
  have hat : ∀ i < s.at_.length, s.at_.getD i 0 ≤ (atG M k 0).getD i 0 := by
    intro i hi
    rw [atG_get _ _ _ _ (by omega)]
    have hsi := hsk i (by omega)
    rcases q5 with ⟨rfl, e, _⟩ | ⟨_, hb, hst, e, _⟩
    · rw [e, rep_get]
      omega
    · rw [e, atG_get _ _ _ _ (by omega)]
      have := ok.inc i (by omega) (b - 1) k (by omega) hk ((stab_iff M _).1 hst i (by omega)) hsi
      omega
  have c1 := cut_step q1 q3 false k (atG M k 0) hlen q2 hat (by rcases q5 with ⟨_, _, rfl⟩ | ⟨rfl, _⟩ <;> simp) (by simp) (fun j h1 h2 => ⟨q4 j h1 h2, by simp⟩)
  obtain ⟨p1, hr1, hp1⟩ : ∃ p1, Reach M m sizes (toG s false k (atG M k 0)).out k (atG M k 0) p1 ∧ p1 ≠ some true := by
    rcases c1 with ⟨c1, _⟩ | ⟨rfl, e2, e3⟩
    · exact ⟨_, c1, by simp⟩
    · refine ⟨p, by rw [e3, e2]; exact q3, ?_⟩
      rcases q5 with ⟨_, _, rfl⟩ | ⟨rfl, hb, hst, e, hc⟩
      · simp
      · exfalso
        have hc := hc hk
        rw [(cont_iff M k).2 fun i hi => ⟨hsk i hi, ?_⟩] at hc
        · exact absurd hc (by decide)
        · have := congrArg (fun l => List.getD l i 0) e2
          replace this : (atG M k 0).getD i 0 = s.at_.getD i 0 := this
          rw [e, atG_get _ _ _ _ hi, atG_get _ _ _ _ hi] at this
          omega
  have hrl := run_le M (m - (k + 1)) (k + 1)
  have hri := runF_in M (m - (k + 1)) (k + 1)
  have hro := run_out M (m - (k + 1)) (k + 1)
  have hev : endG M m k = runF M (m - (k + 1)) (k + 1) := rfl
  rw [← hev] at hrl hri hro
  generalize endG M m k = e at hrl hri hro
  have hval := run_val M k e hri hs
  have hlast := hval (e - 1 - k) (by omega)
  rw [show k + (e - 1 - k) = e - 1 from by omega] at hlast
  have c2 := cut_step (s := toG s false k (atG M k 0)) (b := k) (p := p1) rfl hr1 true e (atG M (e - 1) 1) (by rw [toG_at, atG_len, atG_len]) (by omega)
    (fun i hi => by
      rw [toG_at, atG_len] at hi
      rw [toG_at, atG_get _ _ _ _ hi, atG_get _ _ _ _ hi, hlast.2 i hi]
      omega) hp1
    (fun _ i hi => by
      rw [toG_at, atG_len] at hi
      rw [toG_at, atG_get _ _ _ _ hi, atG_get _ _ _ _ hi, hlast.2 i hi]
      omega)
    (fun j h1 h2 => by
      have := hval (j - k) (by omega)
      rw [show k + (j - k) = j from by omega] at this
      refine ⟨this.1, fun _ i hi => ?_⟩
      rw [toG_at, atG_len] at hi
      rw [toG_at, atG_get _ _ _ _ hi, this.2 i hi]
      omega)
  refine ⟨by omega, by rw [toG_at, atG_len], e, some true, rfl, Nat.le_refl _, ?_, fun j h1 h2 => by omega, .inr ⟨rfl, by omega, hlast.1, rfl, fun h => hro (by omega)⟩⟩
  rcases c2 with ⟨c2, _⟩ | ⟨e1, _, _⟩
  · exact c2
  · omega
theorem inv_loop {M : List (List Int)} {m : Nat} {sizes : List Int} (ok : OkM M m sizes) : ∀ (d k : Nat) (s : CutSt), Inv M m sizes k s → m < k + d → Inv M m sizes m (loopA M m d k s)
  | 0, k, s, h, hd => by have := h.km; omega
  | d + 1, k, s, h, hd => by
    simp only [loopA]
    split
    · rename_i hk
      split
      · rename_i hs
        have hrl := run_le M (m - (k + 1)) (k + 1)
        exact inv_loop ok d _ _ (inv_run ok h hk hs) (by unfold endG; omega)
      · rename_i hs
        exact inv_loop ok d _ _ (inv_skip h hk hs) (by omega)
    · have := h.km
      obtain rfl : k = m := by omega
      exact h
/-- What the chunks of matches are. -/
theorem align_fits {M : List (List Int)} {m : Nat} {sizes : List Int} (ok : OkM M m sizes) : Fits M m sizes 0 (List.replicate sizes.length 0) none (alignG M m sizes) := by
  have h0 : Inv M m sizes 0 ⟨0, List.replicate sizes.length 0, []⟩ := ⟨Nat.zero_le _, by simp [ok.len], 0, none, rfl, Nat.le_refl _, fun l hl => hl, fun j _ h => by omega, .inl ⟨rfl, rfl, rfl⟩⟩
  have h := inv_loop ok (m + 1) 0 _ h0 (by omega)
  unfold alignG
  generalize loopA M m (m + 1) 0 ⟨0, List.replicate sizes.length 0, []⟩ = s at h
  obtain ⟨h1, h2, b, p, q1, q2, q3, q4, q5⟩ := h
  have hl : s.at_.length = sizes.length := by rw [h2, ok.len]
  have c := cut_step q1 q3 false m sizes hl q2
    (fun i hi => by
      rcases q5 with ⟨rfl, e, _⟩ | ⟨_, hb, hst, e, _⟩
      · rw [e, rep_get]
        exact ok.nat i (by omega)
      · rw [e, atG_get _ _ _ _ (by omega)]
        have := ok.high i (by omega) (b - 1) (by omega)
        omega)
    (by rcases q5 with ⟨_, _, rfl⟩ | ⟨rfl, _⟩ <;> simp) (by simp) (fun j h1 h2 => ⟨q4 j h1 h2, by simp⟩)
  rcases c with ⟨c, _⟩ | ⟨e1, e2, e3⟩
  · have := c [] ⟨rfl, rfl⟩
    rwa [List.append_nil] at this
  · rw [e3]
    have := q3 [] ⟨by rw [e1], e2.symm⟩
    rwa [List.append_nil] at this
end Go.Proofs.Ytnebadlakmlkkaa.Pure
