/- Texts of the claim ZealTurn, put together (part 6): By a program of this session: a Go function as a Lean function, and that the machine's call does what it says. content.others: the loop. content.Differing: what the code takes, as a Lean function, and that the machine's call does what it says. What the functions of layer 6 tell, with rounds enough. Plain Lean. -/
import Derived.ArgAppend
import Derived.Below
import Derived.BigQuiet
import Derived.Deep.AppendLies
import Derived.Deep.CutBlock
import Derived.Deep.DeepCutAuto
import Derived.Deep.Draws
import Derived.Deep.LoopGhost
import Derived.Deep.OwnRows
import Derived.Deep.QuietTactic
import Derived.Deep.RegionHeld3
import Derived.KernelRfl
import Derived.Laws.BitsLemmas
import Derived.Laws.BytesArg
import Derived.Laws.IdiomCopy
import Derived.Laws.MakeOwn
import Derived.Laws.OwnMore
import Derived.Laws.Rows
import Derived.Laws.Slices
import Derived.Laws.StructEq
import Derived.Lib.AppendStr
import Derived.Lib.ConvBytes
import Derived.Maps.AppendAt
import Derived.OrdersHeld
import Derived.OwnWalk
import Derived.RowKit
import Derived.RowKit3
import Derived.Tactics
import Derived.Test.YtiaoppikdgoieaaProg
import Derived.WalkKit
import Derived.WideLaws
import Derived.Test.YtiaoppikdgoieaaZealTurnQ5
namespace Go.Proofs.Ytiaoppikdgoieaa.M
open Go.RowKit Go.Proofs.YtiaoppikdgoieaaW.PrintWords Go.Proofs.YtiaoppikdgoieaaW.PrintLast Go.Proofs.YtiaoppikdgoieaaW.PrintMore Go.Proofs.Ytiaoppikdgoieaa.Hand
attribute [local go_sem] max2_int min2_int max_two min_two max_three min_three max_four min_four
set_option linter.unusedVariables false
set_option linter.unusedSimpArgs false

/-! ### sennitref07_Normal: function 42 -/
mutual
def sennitref07_Normal.l0 : Nat → List (S27) → List (S27) → Int → Option ((List (S27)))
  | 0, _, _, _ => none
  | k + 1, x0, x3, x4 => if x4 < (x0.length : Int) then (if 0 ≤ x4 then (if (rd_T27 x0 x4).f0 = true then (if x3.length < 1759218604441 then (sennitref07_Normal.l0 k x0 (x3 ++ [(⟨true, ([] : List ByteArray), (rd_T27 x0 x4).f2, (rd_T27 x0 x4).f3⟩ : S27)]) (wrap64 (x4 + 1))) else (none)) else (sennitref07_Normal.l1 k x0 x3 x4 ([] : List ByteArray))) else (none)) else (some x3)
def sennitref07_Normal.l1 : Nat → List (S27) → List (S27) → Int → List ByteArray → Option ((List (S27)))
  | 0, _, _, _, _ => none
  | k + 1, x0, x3, x4, x5 => if x4 < (x0.length : Int) then (if 0 ≤ x4 then (if ((rd_T27 x0 x4).f0 = true) then (if (x5.length : Int) > 0 then (if x3.length < 1759218604441 then (sennitref07_Normal.l0 k x0 (x3 ++ [(⟨false, x5, ([] : List ByteArray), ([] : List (List ByteArray))⟩ : S27)]) x4) else (none)) else (sennitref07_Normal.l0 k x0 x3 x4)) else (if x5.length + ((rd_T27 x0 x4).f1).length < 8796093022208 then (sennitref07_Normal.l1 k x0 x3 (wrap64 (x4 + 1)) (x5 ++ ((rd_T27 x0 x4).f1))) else (none))) else (none)) else (if (x5.length : Int) > 0 then (if x3.length < 1759218604441 then (sennitref07_Normal.l0 k x0 (x3 ++ [(⟨false, x5, ([] : List ByteArray), ([] : List (List ByteArray))⟩ : S27)]) x4) else (none)) else (sennitref07_Normal.l0 k x0 x3 x4))
end
def sennitref07_Normal.f (k : Nat) (l0 : List (S27)) : Option ((List (S27))) := sennitref07_Normal.l0 k l0 ([] : List (S27)) 0
theorem sennitref07_Normal.mono_l : ∀ k, (∀ y0 y1 y2, LeO (sennitref07_Normal.l0 k y0 y1 y2) (sennitref07_Normal.l0 (k + 1) y0 y1 y2)) ∧ (∀ y0 y1 y2 y3, LeO (sennitref07_Normal.l1 k y0 y1 y2 y3) (sennitref07_Normal.l1 (k + 1) y0 y1 y2 y3))
  | 0 => ⟨fun _ _ _ r h => by simp [sennitref07_Normal.l0] at h, fun _ _ _ _ r h => by simp [sennitref07_Normal.l1] at h⟩
  | k + 1 => by
    obtain ⟨ih0, ih1⟩ := sennitref07_Normal.mono_l k
    refine ⟨?_, ?_⟩
    · intro y0 y1 y2
      unfold sennitref07_Normal.l0
      repeat' first
      | (with_reducible exact ih0 _ _ _)
      | (with_reducible exact ih1 _ _ _ _)
      | (with_reducible exact LeO.refl _)
      | (with_reducible exact LeO.none _)
      | (with_reducible refine LeO.ite ?_ ?_)
      | (with_reducible refine LeO.bind ?_ (fun _ => ?_))
      | exact ih0 _ _ _
      | exact ih1 _ _ _ _
      | exact LeO.none _
      | refine LeO.ite ?_ ?_
      | refine LeO.bind ?_ (fun _ => ?_)
    · intro y0 y1 y2 y3
      unfold sennitref07_Normal.l1
      repeat' first
      | (with_reducible exact ih0 _ _ _)
      | (with_reducible exact ih1 _ _ _ _)
      | (with_reducible exact LeO.refl _)
      | (with_reducible exact LeO.none _)
      | (with_reducible refine LeO.ite ?_ ?_)
      | (with_reducible refine LeO.bind ?_ (fun _ => ?_))
      | exact ih0 _ _ _
      | exact ih1 _ _ _ _
      | exact LeO.none _
      | refine LeO.ite ?_ ?_
      | refine LeO.bind ?_ (fun _ => ?_)
theorem sennitref07_Normal.mono : ∀ a0 k, LeO (sennitref07_Normal.f k a0) (sennitref07_Normal.f (k + 1) a0) := by
  intro a0 k
  obtain ⟨ih0, ih1⟩ := sennitref07_Normal.mono_l k
  unfold sennitref07_Normal.f
  repeat' first
      | (with_reducible exact ih0 _ _ _)
      | (with_reducible exact ih1 _ _ _ _)
      | (with_reducible exact LeO.refl _)
      | (with_reducible exact LeO.none _)
      | (with_reducible refine LeO.ite ?_ ?_)
      | (with_reducible refine LeO.bind ?_ (fun _ => ?_))
      | exact ih0 _ _ _
      | exact ih1 _ _ _ _
      | exact LeO.none _
      | refine LeO.ite ?_ ?_
      | refine LeO.bind ?_ (fun _ => ?_)
def sennitref07_Normal.T5 : Bool × List (List Nat × List Nat) := (true, [([], []), ([], []), ([], []), ([1, 2], [1, 2]), ([3], [3]), ([4], [4]), ([], []), ([], []), ([6, 7], [6, 7]), ([8], [8]), ([9], [9]), ([5, 10], [5, 10]), ([11], [11]), ([0, 12], [0, 12]), ([13, 13, 0, 1, 2, 3, 4, 5, 6, 7, 8, 9, 10, 11, 12, 13], [0, 13])])
def sennitref07_Normal.B5 : List Nat := [0, 0, 0, 6, 14, 30, 0, 0, 192, 448, 960, 2046, 4094, 8191, 16383]
theorem sennitref07_Normal.tab5 : rtab .any (opsOf Try.f42 5) = sennitref07_Normal.T5 := by kernel_rfl
theorem sennitref07_Normal.bits5 : waitsOk sennitref07_Normal.T5.2 sennitref07_Normal.B5 = true := by kernel_rfl
set_option maxHeartbeats 8000000 in
set_option maxRecDepth 100000 in
theorem sennitref07_Normal.calls (k : Nat) (P0_ : Nat → Prop) (A0 : Option Addr) (c0 : Nat) (l0 : List (S27)) (r : List (S27)) (w : World) (hs0 : Kd.V k27 27 w w.heap.size (fun k_ => P0_ k_) (.slice A0 l0.length c0) l0) (h : sennitref07_Normal.f k l0 = some r) :
    Calls Try.prog 42 #[.slice A0 l0.length c0] w fun e w' => ∃ v0_ : Value, e = .returned (v0_) ∧ Kd.N k27 27 w' w.heap.size (fun k_ => (P0_ k_ ∨ w.heap.size ≤ k_)) v0_ r ∧ Below w.heap.size w w' := by
  have hu27 := Try.underlying27
  have HO0 := am (show Kd.V k27 27 w w.heap.size (fun k_ => (P0_ k_ ∨ w.heap.size ≤ k_)) (.slice A0 l0.length c0) l0 from Kd.V_mono hs0 (fun k_ hk => .inl hk))
  have HB := am (Below.refl w.heap.size w)
  have H : (sennitref07_Normal.l0 k l0 ([] : List (S27)) 0) = some r := h
  clear h
  have H' := am H
  clear H
  go_enter Try.func42, Try.ntmps42
  go_wp2
  go_loopg [3, 4] k (fun kq v3 v4 w' => ∃ (x3_1 : List (S27)) (x4_1 : Int), v4 = .int .i64 x4_1 ∧ Aside0 (sennitref07_Normal.l0 kq l0 x3_1 x4_1 = some r) ∧ Aside0 (kq ≤ k) ∧ Aside0 (Kd.V k27 27 w' w.heap.size (fun k_ => (P0_ k_ ∨ w.heap.size ≤ k_) ∧ some k_ ≠ (v3 : Value).ownBlock) (.slice A0 l0.length c0) l0) ∧ Aside0 (Kd.N k27 27 w' w.heap.size (fun k_ => (P0_ k_ ∨ w.heap.size ≤ k_)) v3 x3_1) ∧ Aside0 (Below w.heap.size w w'))
  case atStart => exact ⟨(([] : List (S27))), (0), (by first | rfl | (simp; done) | (simp [*]; done)), H', ⟨Nat.le_refl _⟩, ⟨by (with_reducible repeat (first | apply vA | apply vN | apply vD)); exact Kd.V_mono HO0.out (fun _ hk => ⟨hk, (by simp [Value.ownBlock])⟩)⟩, ⟨by first | exact Kd.R_nil _ _ _ _ _ | exact Kd.N_nil _ _ _ _ _ | exact Kd.V_nil _ _ _ _ _ | exact Kd.Q_nil _ _ _ _ _ | exact Kd.S_nil _ _ _ _ _⟩, ⟨by repeat (with_reducible first | exact HB.out | apply bA | apply bN | apply bD)⟩⟩
  case round =>
    clear H'
    obtain ⟨x3_1, x4_1, rfl, HA, HK1, HO_0, HO_3, HB⟩ := hrel
    cases gk with
    | zero => exact absurd HA.out (by simp [sennitref07_Normal.l0])
    | succ k1 =>
      have H := HA.out
      clear HA
      simp only [sennitref07_Normal.l0] at H
      by_cases c2 : x4_1 < (l0.length : Int)
      · rw [if_pos c2] at H
        have c2b0 : decide (x4_1 < (l0.length : Int)) = true := decide_eq_true c2
        clear c2
        by_cases c3 : 0 ≤ x4_1
        · rw [if_pos c3] at H
          have c3b0 : decide (0 ≤ x4_1) = true := decide_eq_true c3
          clear c3
          obtain ⟨bq4, hbq4⟩ : ∃ b_ : Bool, b_ = ((rd_T27 l0 x4_1).f0) := ⟨_, rfl⟩
          replace H : (if bq4 = true then (if x3_1.length < 1759218604441 then (sennitref07_Normal.l0 k1 l0 (x3_1 ++ [(⟨true, ([] : List ByteArray), (rd_T27 l0 x4_1).f2, (rd_T27 l0 x4_1).f3⟩ : S27)]) (wrap64 (x4_1 + 1))) else (none)) else (sennitref07_Normal.l1 k1 l0 x3_1 x4_1 ([] : List ByteArray))) = some r := by rw [← hbq4] at H; exact H
          have Nbq4 := am hbq4
          clear hbq4
          by_cases c5 : bq4 = true
          · subst c5
            have H1 : (if x3_1.length < 1759218604441 then (sennitref07_Normal.l0 k1 l0 (x3_1 ++ [(⟨true, ([] : List ByteArray), (rd_T27 l0 x4_1).f2, (rd_T27 l0 x4_1).f3⟩ : S27)]) (wrap64 (x4_1 + 1))) else (none)) = some r := by rw [if_pos rfl] at H; exact H
            clear H
            have H := H1
            clear H1
            by_cases c6 : x3_1.length < 1759218604441
            · rw [if_pos c6] at H
              have LMc6 := am c6
              clear c6
              obtain ⟨y455, hy455⟩ : ∃ y_ : List (S27), y_ = (x3_1 ++ [(⟨true, ([] : List ByteArray), (rd_T27 l0 x4_1).f2, (rd_T27 l0 x4_1).f3⟩ : S27)]) := ⟨_, rfl⟩
              replace H : (sennitref07_Normal.l0 k1 l0 y455 (wrap64 (x4_1 + 1))) = some r := by first | (rw [hy455]; with_reducible exact H) | (have H2_ := (Option.bind_some _ _).symm.trans H; rw [hy455]; with_reducible exact H2_) | (have H2_ := (Option.bind_some _ _).symm.trans H; with_reducible exact H2_) | with_reducible exact H | (rw [hy455]; exact H) | exact H
              have Ny455 := am hy455
              clear hy455
              have H' := am H
              clear H
              have p452 : 0 ≤ (x4_1 : Int) := of_decide_eq_true (by first | (with_reducible assumption) | assumption)
              have q452 : x4_1 < (l0.length : Int) := of_decide_eq_true (by first | (with_reducible assumption) | assumption)
              obtain ⟨ad452, A452_1, c452_1, A452_2, c452_2, A452_3, c452_3, e452, hx452_0, hx452_1, hx452_2, hx452_3, hl452_1, hi452_1, hl452_2, hi452_2, hl452_3, hi452_3⟩ := at_T27 (Kd.V_reads' HO_0.out).2.2 x4_1 p452 q452
              (try rw [← Nbq4.out] at hx452_0)
              cases e452
              obtain ⟨ce452, hce452, hMe452, hcc452⟩ := Kd.V_get HO_0.out z27 x4_1 p452 (by first | exact q452 | exact of_decide_eq_true (by first | (with_reducible assumption) | assumption) | (have e_ := (Kd.V_reads' HO_0.out).1; omega))
              obtain ⟨ua452_1, uc452_1, ua452_2, uc452_2, ua452_3, uc452_3, rfl, ul452_1, ge452_1, ul452_2, ge452_2, ul452_3, ge452_3⟩ := k27_openF hMe452
              have hv452_1 := hcc452 1 _ rfl
              rw [add_field _ _ 1 (by omega)] at hv452_1
              replace hv452_1 := Option.some.inj (hv452_1.symm.trans hx452_1)
              injection hv452_1 with hva_ hvn_ hvc_
              rw [hva_] at ge452_1
              rw [hvc_] at ul452_1
              have HL452_1 := am (show Kd.V Kd.string 9 _ w.heap.size _ _ ((rd_T27 l0 x4_1).f1) from Kd.V_mk ul452_1 ge452_1)
              clear hva_ hvn_ hvc_ ge452_1 ul452_1
              have hv452_2 := hcc452 2 _ rfl
              rw [add_field _ _ 2 (by omega)] at hv452_2
              replace hv452_2 := Option.some.inj (hv452_2.symm.trans hx452_2)
              injection hv452_2 with hva_ hvn_ hvc_
              rw [hva_] at ge452_2
              rw [hvc_] at ul452_2
              have HL452_2 := am (show Kd.V Kd.string 9 _ w.heap.size _ _ ((rd_T27 l0 x4_1).f2) from Kd.V_mk ul452_2 ge452_2)
              clear hva_ hvn_ hvc_ ge452_2 ul452_2
              have hv452_3 := hcc452 3 _ rfl
              rw [add_field _ _ 3 (by omega)] at hv452_3
              replace hv452_3 := Option.some.inj (hv452_3.symm.trans hx452_3)
              injection hv452_3 with hva_ hvn_ hvc_
              rw [hva_] at ge452_3
              rw [hvc_] at ul452_3
              have HL452_3 := am (show Kd.V (Kd.slice 9 Kd.string) 22 _ w.heap.size _ _ ((rd_T27 l0 x4_1).f3) from Kd.V_mk ul452_3 ge452_3)
              clear hva_ hvn_ hvc_ ge452_3 ul452_3
              clear hcc452 hce452
              have HR452_1 := am hi452_1
              have HC452_1 := am hl452_1
              clear hi452_1 hl452_1
              have HR452_2 := am hi452_2
              have HC452_2 := am hl452_2
              clear hi452_2 hl452_2
              have HR452_3 := am hi452_3
              have HC452_3 := am hl452_3
              clear hi452_3 hl452_3
              replace p452 := eq_true p452
              replace q452 := eq_true q452
              try go_wp2
              have n0_ := am (Kd.V_drew HO_0.out)
              have n1_ := am (Kd.N_drew HO_3.out)
              have n2_ := am (Kd.V_drew HL452_1.out)
              have n3_ := am (Kd.V_drew HL452_2.out)
              have n4_ := am (Kd.V_drew HL452_3.out)
              have n5_ := am (Kd.C_drew HR452_1.out)
              have n6_ := am (Kd.C_drew HR452_2.out)
              have n7_ := am (Kd.C_drew HR452_3.out)
              have n8_ := am (below_drew1 HB.out)
              clear HO_0
              clear HO_3
              clear HL452_1
              clear HL452_2
              clear HL452_3
              clear HR452_1
              clear HR452_2
              clear HR452_3
              clear HB
              have HO_0 := n0_
              have HO_3 := n1_
              have HL452_1 := n2_
              have HL452_2 := n3_
              have HL452_3 := n4_
              have HR452_1 := n5_
              have HR452_2 := n6_
              have HR452_3 := n7_
              have HB := n8_
              clear n0_ n1_ n2_ n3_ n4_ n5_ n6_ n7_ n8_
              have p453 : 0 ≤ (x4_1 : Int) := of_decide_eq_true (by first | (with_reducible assumption) | assumption)
              have q453 : x4_1 < (l0.length : Int) := of_decide_eq_true (by first | (with_reducible assumption) | assumption)
              obtain ⟨ad453, A453_1, c453_1, A453_2, c453_2, A453_3, c453_3, e453, hx453_0, hx453_1, hx453_2, hx453_3, hl453_1, hi453_1, hl453_2, hi453_2, hl453_3, hi453_3⟩ := at_T27 (Kd.V_reads' HO_0.out).2.2 x4_1 p453 q453
              (try rw [← Nbq4.out] at hx453_0)
              obtain rfl : ad452 = ad453 := (by injection e453)
              obtain ⟨ce453, hce453, hMe453, hcc453⟩ := Kd.V_get HO_0.out z27 x4_1 p453 (by first | exact q453 | exact of_decide_eq_true (by first | (with_reducible assumption) | assumption) | (have e_ := (Kd.V_reads' HO_0.out).1; omega))
              obtain ⟨ua453_1, uc453_1, ua453_2, uc453_2, ua453_3, uc453_3, rfl, ul453_1, ge453_1, ul453_2, ge453_2, ul453_3, ge453_3⟩ := k27_openF hMe453
              have hv453_1 := hcc453 1 _ rfl
              rw [add_field _ _ 1 (by omega)] at hv453_1
              replace hv453_1 := Option.some.inj (hv453_1.symm.trans hx453_1)
              injection hv453_1 with hva_ hvn_ hvc_
              rw [hva_] at ge453_1
              rw [hvc_] at ul453_1
              have HL453_1 := am (show Kd.V Kd.string 9 _ w.heap.size _ _ ((rd_T27 l0 x4_1).f1) from Kd.V_mk ul453_1 ge453_1)
              clear hva_ hvn_ hvc_ ge453_1 ul453_1
              have hv453_2 := hcc453 2 _ rfl
              rw [add_field _ _ 2 (by omega)] at hv453_2
              replace hv453_2 := Option.some.inj (hv453_2.symm.trans hx453_2)
              injection hv453_2 with hva_ hvn_ hvc_
              rw [hva_] at ge453_2
              rw [hvc_] at ul453_2
              have HL453_2 := am (show Kd.V Kd.string 9 _ w.heap.size _ _ ((rd_T27 l0 x4_1).f2) from Kd.V_mk ul453_2 ge453_2)
              clear hva_ hvn_ hvc_ ge453_2 ul453_2
              have hv453_3 := hcc453 3 _ rfl
              rw [add_field _ _ 3 (by omega)] at hv453_3
              replace hv453_3 := Option.some.inj (hv453_3.symm.trans hx453_3)
              injection hv453_3 with hva_ hvn_ hvc_
              rw [hva_] at ge453_3
              rw [hvc_] at ul453_3
              have HL453_3 := am (show Kd.V (Kd.slice 9 Kd.string) 22 _ w.heap.size _ _ ((rd_T27 l0 x4_1).f3) from Kd.V_mk ul453_3 ge453_3)
              clear hva_ hvn_ hvc_ ge453_3 ul453_3
              clear hcc453 hce453
              have HR453_1 := am hi453_1
              have HC453_1 := am hl453_1
              clear hi453_1 hl453_1
              have HR453_2 := am hi453_2
              have HC453_2 := am hl453_2
              clear hi453_2 hl453_2
              have HR453_3 := am hi453_3
              have HC453_3 := am hl453_3
              clear hi453_3 hl453_3
              replace p453 := eq_true p453
              replace q453 := eq_true q453
              have p454 : 0 ≤ (x4_1 : Int) := of_decide_eq_true (by first | (with_reducible assumption) | assumption)
              have q454 : x4_1 < (l0.length : Int) := of_decide_eq_true (by first | (with_reducible assumption) | assumption)
              obtain ⟨ad454, A454_1, c454_1, A454_2, c454_2, A454_3, c454_3, e454, hx454_0, hx454_1, hx454_2, hx454_3, hl454_1, hi454_1, hl454_2, hi454_2, hl454_3, hi454_3⟩ := at_T27 (Kd.V_reads' HO_0.out).2.2 x4_1 p454 q454
              (try rw [← Nbq4.out] at hx454_0)
              obtain rfl : ad452 = ad454 := (by injection e454)
              obtain ⟨ce454, hce454, hMe454, hcc454⟩ := Kd.V_get HO_0.out z27 x4_1 p454 (by first | exact q454 | exact of_decide_eq_true (by first | (with_reducible assumption) | assumption) | (have e_ := (Kd.V_reads' HO_0.out).1; omega))
              obtain ⟨ua454_1, uc454_1, ua454_2, uc454_2, ua454_3, uc454_3, rfl, ul454_1, ge454_1, ul454_2, ge454_2, ul454_3, ge454_3⟩ := k27_openF hMe454
              have hv454_1 := hcc454 1 _ rfl
              rw [add_field _ _ 1 (by omega)] at hv454_1
              replace hv454_1 := Option.some.inj (hv454_1.symm.trans hx454_1)
              injection hv454_1 with hva_ hvn_ hvc_
              rw [hva_] at ge454_1
              rw [hvc_] at ul454_1
              have HL454_1 := am (show Kd.V Kd.string 9 _ w.heap.size _ _ ((rd_T27 l0 x4_1).f1) from Kd.V_mk ul454_1 ge454_1)
              clear hva_ hvn_ hvc_ ge454_1 ul454_1
              have hv454_2 := hcc454 2 _ rfl
              rw [add_field _ _ 2 (by omega)] at hv454_2
              replace hv454_2 := Option.some.inj (hv454_2.symm.trans hx454_2)
              injection hv454_2 with hva_ hvn_ hvc_
              rw [hva_] at ge454_2
              rw [hvc_] at ul454_2
              have HL454_2 := am (show Kd.V Kd.string 9 _ w.heap.size _ _ ((rd_T27 l0 x4_1).f2) from Kd.V_mk ul454_2 ge454_2)
              clear hva_ hvn_ hvc_ ge454_2 ul454_2
              have hv454_3 := hcc454 3 _ rfl
              rw [add_field _ _ 3 (by omega)] at hv454_3
              replace hv454_3 := Option.some.inj (hv454_3.symm.trans hx454_3)
              injection hv454_3 with hva_ hvn_ hvc_
              rw [hva_] at ge454_3
              rw [hvc_] at ul454_3
              have HL454_3 := am (show Kd.V (Kd.slice 9 Kd.string) 22 _ w.heap.size _ _ ((rd_T27 l0 x4_1).f3) from Kd.V_mk ul454_3 ge454_3)
              clear hva_ hvn_ hvc_ ge454_3 ul454_3
              clear hcc454 hce454
              have HR454_1 := am hi454_1
              have HC454_1 := am hl454_1
              clear hi454_1 hl454_1
              have HR454_2 := am hi454_2
              have HC454_2 := am hl454_2
              clear hi454_2 hl454_2
              have HR454_3 := am hi454_3
              have HC454_3 := am hl454_3
              clear hi454_3 hl454_3
              replace p454 := eq_true p454
              replace q454 := eq_true q454
              have ea_ := Option.some.inj (hx453_1.symm.trans hx454_1)
              injection ea_ with ea_ en_ ec_
              subst ea_
              subst ec_
              clear en_
              have ea_ := Option.some.inj (hx453_2.symm.trans hx454_2)
              injection ea_ with ea_ en_ ec_
              subst ea_
              subst ec_
              clear en_
              have ea_ := Option.some.inj (hx453_3.symm.trans hx454_3)
              injection ea_ with ea_ en_ ec_
              subst ea_
              subst ec_
              clear en_
              refine start_ (n := 15) (S := fun w' => w'.cell? (ad452.add ((x4_1).toNat * 4)) = some (.bool (true)) ∧ w'.cell? ⟨(ad452.add ((x4_1).toNat * 4)).block, (ad452.add ((x4_1).toNat * 4)).off + 1, none⟩ = some (.slice A453_1 ((rd_T27 l0 x4_1).f1).length c453_1) ∧ w'.cell? ⟨(ad452.add ((x4_1).toNat * 4)).block, (ad452.add ((x4_1).toNat * 4)).off + 2, none⟩ = some (.slice A453_2 ((rd_T27 l0 x4_1).f2).length c453_2) ∧ w'.cell? ⟨(ad452.add ((x4_1).toNat * 4)).block, (ad452.add ((x4_1).toNat * 4)).off + 3, none⟩ = some (.slice A453_3 ((rd_T27 l0 x4_1).f3).length c453_3) ∧ w'.cell? (ad452.add ((x4_1).toNat * 4)) = some (.bool (true)) ∧ w'.cell? ⟨(ad452.add ((x4_1).toNat * 4)).block, (ad452.add ((x4_1).toNat * 4)).off + 1, none⟩ = some (.slice A453_1 ((rd_T27 l0 x4_1).f1).length c453_1) ∧ w'.cell? ⟨(ad452.add ((x4_1).toNat * 4)).block, (ad452.add ((x4_1).toNat * 4)).off + 2, none⟩ = some (.slice A453_2 ((rd_T27 l0 x4_1).f2).length c453_2) ∧ w'.cell? ⟨(ad452.add ((x4_1).toNat * 4)).block, (ad452.add ((x4_1).toNat * 4)).off + 3, none⟩ = some (.slice A453_3 ((rd_T27 l0 x4_1).f3).length c453_3)) (ds := [12, 13]) #[false, false, false, false, false, false, false, false, false, false, false, false, false, false, false] (by kernel_rfl) rfl rfl ⟨hx453_0, hx453_1, hx453_2, hx453_3, hx454_0, hx454_1, hx454_2, hx454_3⟩ (fun hHeld => ?_); refine with_tabW sennitref07_Normal.tab5 sennitref07_Normal.bits5 (fun HT_ HW_ => ?_)
              generalize wr.drew = w7 at HO_0 HO_3 HL452_1 HL452_2 HL452_3 HR452_1 HR452_2 HR452_3 HB HL453_1 HL453_2 HL453_3 HL454_1 HL454_2 HL454_3 HR453_1 HR453_2 HR453_3 HR454_1 HR454_2 HR454_3 hx453_0 hx453_1 hx453_2 hx453_3 hx454_0 hx454_1 hx454_2 hx454_3 hHeld ⊢
              refine pure_ (i := 0) (N := some 15) (v := ?_) (a' := ?_) #[true, false, false, false, false, false, false, false, false, false, false, false, false, false, false] rfl rfl (any_of HT_.out (by kernel_rfl)) (fun _ _ _ h => h) (Or.inl ⟨by rfl, ?_⟩) ?_ ?_
              rotate_left
              · intro w'
                go_simp
                with_reducible rfl
              rotate_left
              · simp only [Act.put, List.setIfInBounds_toArray, List.set_cons_zero, List.set_cons_succ, i64_w, i32_w]
                rfl
              refine pure_ (i := 1) (N := some 16) (v := ?_) (a' := ?_) #[true, true, false, false, false, false, false, false, false, false, false, false, false, false, false] rfl rfl (any_of HT_.out (by kernel_rfl)) (fun _ _ _ h => h) (Or.inl ⟨by rfl, ?_⟩) ?_ ?_
              rotate_left
              · intro w'
                go_simp
                with_reducible rfl
              rotate_left
              · simp only [Act.put, List.setIfInBounds_toArray, List.set_cons_zero, List.set_cons_succ, i64_w, i32_w]
                rfl
              refine pure_ (i := 2) (N := some 17) (v := ?_) (a' := ?_) #[true, true, true, false, false, false, false, false, false, false, false, false, false, false, false] rfl rfl (any_of HT_.out (by kernel_rfl)) (fun _ _ _ h => h) (Or.inl ⟨by rfl, ?_⟩) ?_ ?_
              rotate_left
              · intro w'
                go_simp
                with_reducible rfl
              rotate_left
              · simp only [Act.put, List.setIfInBounds_toArray, List.set_cons_zero, List.set_cons_succ, i64_w, i32_w]
                rfl
              refine pure_ (i := 3) (N := some 18) (v := ?_) (a' := ?_) #[true, true, true, true, false, false, false, false, false, false, false, false, false, false, false] rfl rfl (any_of HT_.out (by kernel_rfl)) (fun _ _ _ h => h) (Or.inl ⟨by rfl, ?_⟩) ?_ ?_
              rotate_left
              · intro w'
                go_simp
                with_reducible rfl
              rotate_left
              · simp only [Act.put, List.setIfInBounds_toArray, List.set_cons_zero, List.set_cons_succ, i64_w, i32_w]
                rfl
              refine pure_ (i := 4) (N := some 19) (v := ?_) (a' := ?_) #[true, true, true, true, true, false, false, false, false, false, false, false, false, false, false] rfl rfl (any_of HT_.out (by kernel_rfl)) (fun _ _ _ h => h) (Or.inl ⟨by rfl, ?_⟩) ?_ ?_
              rotate_left
              · intro w'
                go_simp
                with_reducible rfl
              rotate_left
              · simp only [Act.put, List.setIfInBounds_toArray, List.set_cons_zero, List.set_cons_succ, i64_w, i32_w]
                rfl
              refine pure_ (i := 6) (N := some 21) (v := ?_) (a' := ?_) #[true, true, true, true, true, false, true, false, false, false, false, false, false, false, false] rfl rfl (any_of HT_.out (by kernel_rfl)) (fun _ _ _ h => h) (Or.inl ⟨by rfl, ?_⟩) ?_ ?_
              rotate_left
              · intro w'
                go_simp
                with_reducible rfl
              rotate_left
              · simp only [Act.put, List.setIfInBounds_toArray, List.set_cons_zero, List.set_cons_succ, i64_w, i32_w]
                rfl
              refine pure_ (i := 7) (N := some 22) (v := ?_) (a' := ?_) #[true, true, true, true, true, false, true, true, false, false, false, false, false, false, false] rfl rfl (any_of HT_.out (by kernel_rfl)) (fun _ _ _ h => h) (Or.inl ⟨by rfl, ?_⟩) ?_ ?_
              rotate_left
              · intro w'
                go_simp
                with_reducible rfl
              rotate_left
              · simp only [Act.put, List.setIfInBounds_toArray, List.set_cons_zero, List.set_cons_succ, i64_w, i32_w]
                rfl
              refine pure_ (i := 8) (N := some 23) (v := ?_) (a' := ?_) #[true, true, true, true, true, false, true, true, true, false, false, false, false, false, false] rfl rfl (any_of HT_.out (by kernel_rfl)) (fun _ _ _ h => h) (Or.inl ⟨by rfl, ?_⟩) ?_ ?_
              rotate_left
              · intro w'
                go_simp
                with_reducible rfl
              rotate_left
              · simp only [Act.put, List.setIfInBounds_toArray, List.set_cons_zero, List.set_cons_succ, i64_w, i32_w]
                rfl
              refine pure_ (i := 9) (N := some 24) (v := ?_) (a' := ?_) #[true, true, true, true, true, false, true, true, true, true, false, false, false, false, false] rfl rfl (any_of HT_.out (by kernel_rfl)) (fun _ _ _ h => h) (Or.inl ⟨by rfl, ?_⟩) ?_ ?_
              rotate_left
              · intro w'
                go_simp
                with_reducible rfl
              rotate_left
              · simp only [Act.put, List.setIfInBounds_toArray, List.set_cons_zero, List.set_cons_succ, i64_w, i32_w]
                rfl
              refine take_ (i := 5) (N := some 20) (v := ?_) (a' := ?_) #[true, true, true, true, true, true, true, true, true, true, false, false, false, false, false] rfl rfl (take_ofW HT_.out HW_.out (by kernel_rfl)) (fun _ _ _ h => h) (Or.inl ⟨by rfl, ?_⟩) hHeld ?_ ?_
              rotate_left
              · rintro w' ⟨s0, s1, s2, s3, s4, s5, s6, s7⟩
                go_simp
                with_reducible rfl
              rotate_left
              · simp only [Act.put, List.setIfInBounds_toArray, List.set_cons_zero, List.set_cons_succ, i64_w, i32_w]
                rfl
              refine take_ (i := 10) (N := some 25) (v := ?_) (a' := ?_) #[true, true, true, true, true, true, true, true, true, true, true, false, false, false, false] rfl rfl (take_ofW HT_.out HW_.out (by kernel_rfl)) (fun _ _ _ h => h) (Or.inl ⟨by rfl, ?_⟩) hHeld ?_ ?_
              rotate_left
              · rintro w' ⟨s0, s1, s2, s3, s4, s5, s6, s7⟩
                go_simp
                with_reducible rfl
              rotate_left
              · simp only [Act.put, List.setIfInBounds_toArray, List.set_cons_zero, List.set_cons_succ, i64_w, i32_w]
                rfl
              refine pure_ (i := 11) (N := some 26) (v := ?_) (a' := ?_) #[true, true, true, true, true, true, true, true, true, true, true, true, false, false, false] rfl rfl (any_of HT_.out (by kernel_rfl)) (fun _ _ _ h => h) (Or.inl ⟨by rfl, ?_⟩) ?_ ?_
              rotate_left
              · intro w'
                go_simp
                with_reducible rfl
              rotate_left
              · simp only [Act.put, List.setIfInBounds_toArray, List.set_cons_zero, List.set_cons_succ, i64_w, i32_w]
                rfl
              refine last_ (i := 12) (N := some 27) #[true, true, true, true, true, true, true, true, true, true, true, true, true, false, false] rfl rfl (one_of HT_.out (by kernel_rfl)) (by decide) (fun K hK => ?_)
              refine value_ (w1 := ?_) (v := ?_) (by rfl) rfl ?_ ?_
              rotate_left 2
              · go_simp
                constructor
                · rfl
                · rfl
              refine hK.out _ _ ?_
              clear hK K
              refine norm_ (a' := ?_) ?_ ?_
              rotate_left
              · show Act.put _ (some 27) _ = _
                simp only [Act.put, List.setIfInBounds_toArray, List.set_cons_zero, List.set_cons_succ, i64_w, i32_w]
                rfl
              refine last_ (i := 13) (N := some 28) #[true, true, true, true, true, true, true, true, true, true, true, true, true, true, false] rfl rfl (one_of HT_.out (by kernel_rfl)) (by decide) (fun K hK => ?_)
              refine Kd.N_append_step k27 (w0 := w) w.heap.size (by rfl) (.tmp 15) (.tmp 27) 48 27 (.agg #[(.bool false), (.slice none 0 0), (.slice none 0 0), (.slice none 0 0)]) 80 rfl Try.underlying48 info27 rfl (by decide) (by omega) u3 x3_1 (⟨true, ([] : List ByteArray), (rd_T27 l0 x4_1).f2, (rd_T27 l0 x4_1).f3⟩ : S27) [.bool true, .slice none 0 0, .slice A453_2 ((rd_T27 l0 x4_1).f2).length c453_2, .slice A453_3 ((rd_T27 l0 x4_1).f3).length c453_3] (fun k_ => (P0_ k_ ∨ w.heap.size ≤ k_)) (fun k_ => ((fun k_ => (P0_ k_ ∨ w.heap.size ≤ k_))) k_ ∧ some k_ ≠ (u3 : Value).ownBlock) rfl rfl ?aP (fun _ hk => hk) ?aF ?aO ?aB ?aS ?aL ?_
              (case aP => exact (k27_mkF _ _ (⟨true, ([] : List ByteArray), (rd_T27 l0 x4_1).f2, (rd_T27 l0 x4_1).f3⟩ : S27) (Nat.le_refl _) (Kd.F_nil _ _ _) (Kd.V_reads' (Kd.V_mono (ok' := (fun k_ => ((fun k_ => (P0_ k_ ∨ w.heap.size ≤ k_))) k_ ∧ some k_ ≠ (u3 : Value).ownBlock)) (HL453_2.out) (fun k_ hk => ⟨hk.1, hk.2⟩))).2.1 (Kd.V_F (Kd.V_mono (ok' := (fun k_ => ((fun k_ => (P0_ k_ ∨ w.heap.size ≤ k_))) k_ ∧ some k_ ≠ (u3 : Value).ownBlock)) (HL453_2.out) (fun k_ hk => ⟨hk.1, hk.2⟩))) (Kd.V_reads' (Kd.V_mono (ok' := (fun k_ => ((fun k_ => (P0_ k_ ∨ w.heap.size ≤ k_))) k_ ∧ some k_ ≠ (u3 : Value).ownBlock)) (HL454_3.out) (fun k_ hk => ⟨hk.1, hk.2⟩))).2.1 (Kd.V_F (Kd.V_mono (ok' := (fun k_ => ((fun k_ => (P0_ k_ ∨ w.heap.size ≤ k_))) k_ ∧ some k_ ≠ (u3 : Value).ownBlock)) (HL454_3.out) (fun k_ hk => ⟨hk.1, hk.2⟩)))))
              (case aB => exact (by repeat (with_reducible first | exact HB.out | apply bA | apply bN | apply bD)))
              (case aF => exact (fun k_ hk => (.inr (Nat.le_trans (below_size (by repeat (with_reducible first | exact HB.out | apply bA | apply bN | apply bD))) hk))))
              (case aO => exact (by (with_reducible repeat (first | apply nA | apply nN | apply nD)); exact HO_3.out))
              (case aS => exact (below_size (by repeat (with_reducible first | exact HB.out | apply bA | apply bN | apply bD))))
              (case aL => have := LMc6.out; omega)
              intro v456 w8 ho hb hg hat
              rw [← Ny455.out] at ho
              have n0_ := am (Kd.V_afterv (ok := (fun k_ => (P0_ k_ ∨ w.heap.size ≤ k_))) (by (with_reducible repeat (first | apply vA | apply vN | apply vD)); exact HO_0.out) hg hat)
              have n1_ := am (Kd.V_afterv (ok := (fun k_ => (P0_ k_ ∨ w.heap.size ≤ k_))) (by (with_reducible repeat (first | apply vA | apply vN | apply vD)); exact HL452_1.out) hg hat)
              have n2_ := am (Kd.V_afterv (ok := (fun k_ => (P0_ k_ ∨ w.heap.size ≤ k_))) (by (with_reducible repeat (first | apply vA | apply vN | apply vD)); exact HL452_2.out) hg hat)
              have n3_ := am (Kd.V_afterv (ok := (fun k_ => (P0_ k_ ∨ w.heap.size ≤ k_))) (by (with_reducible repeat (first | apply vA | apply vN | apply vD)); exact HL452_3.out) hg hat)
              have n4_ := am (Kd.V_afterv (ok := (fun k_ => (P0_ k_ ∨ w.heap.size ≤ k_))) (by (with_reducible repeat (first | apply vA | apply vN | apply vD)); exact HL453_1.out) hg hat)
              have n5_ := am (Kd.V_afterv (ok := (fun k_ => (P0_ k_ ∨ w.heap.size ≤ k_))) (by (with_reducible repeat (first | apply vA | apply vN | apply vD)); exact HL453_2.out) hg hat)
              have n6_ := am (Kd.V_afterv (ok := (fun k_ => (P0_ k_ ∨ w.heap.size ≤ k_))) (by (with_reducible repeat (first | apply vA | apply vN | apply vD)); exact HL453_3.out) hg hat)
              have n7_ := am (Kd.V_afterv (ok := (fun k_ => (P0_ k_ ∨ w.heap.size ≤ k_))) (by (with_reducible repeat (first | apply vA | apply vN | apply vD)); exact HL454_1.out) hg hat)
              have n8_ := am (Kd.V_afterv (ok := (fun k_ => (P0_ k_ ∨ w.heap.size ≤ k_))) (by (with_reducible repeat (first | apply vA | apply vN | apply vD)); exact HL454_2.out) hg hat)
              have n9_ := am (Kd.V_afterv (ok := (fun k_ => (P0_ k_ ∨ w.heap.size ≤ k_))) (by (with_reducible repeat (first | apply vA | apply vN | apply vD)); exact HL454_3.out) hg hat)
              have n10_ := am (hb)
              have n11_ := am (ho)
              clear HO_0
              clear HL452_1
              clear HL452_2
              clear HL452_3
              clear HL453_1
              clear HL453_2
              clear HL453_3
              clear HL454_1
              clear HL454_2
              clear HL454_3
              clear HB
              clear HO_3
              have HO_0 := n0_
              have HL452_1 := n1_
              have HL452_2 := n2_
              have HL452_3 := n3_
              have HL453_1 := n4_
              have HL453_2 := n5_
              have HL453_3 := n6_
              have HL454_1 := n7_
              have HL454_2 := n8_
              have HL454_3 := n9_
              have HB := n10_
              have HO457 := n11_
              clear n0_ n1_ n2_ n3_ n4_ n5_ n6_ n7_ n8_ n9_ n10_ n11_
              clear ho hb hg hat
              refine hK.out _ _ ?_
              clear hK K
              refine norm_ (a' := ?_) ?_ ?_
              rotate_left
              · show Act.put _ (some 28) _ = _
                simp only [Act.put, List.setIfInBounds_toArray, List.set_cons_zero, List.set_cons_succ, i64_w, i32_w]
                rfl
              refine pure_ (i := 14) (N := some 3) (v := ?_) (a' := ?_) #[true, true, true, true, true, true, true, true, true, true, true, true, true, true, true] rfl rfl (any_of HT_.out (by kernel_rfl)) (fun _ _ _ h => h) (Or.inl ⟨by rfl, ?_⟩) ?_ ?_
              rotate_left
              · intro w'
                go_simp
                with_reducible rfl
              rotate_left
              · simp only [Act.put, List.setIfInBounds_toArray, List.set_cons_zero, List.set_cons_succ, i64_w, i32_w]
                rfl
              refine done_ (done_of HT_.out (by kernel_rfl)) ?_
              try go_wp2
              go_roundg k1
              case measure => have := HK1.out; omega
              case rel => exact ⟨(y455), (wrap64 (x4_1 + 1)), (by first | rfl | (simp; done) | (simp [*]; done)), H', ⟨by have := HK1.out; omega⟩, ⟨by (with_reducible repeat (first | apply vA | apply vN | apply vD)); exact HO_0.out⟩, ⟨by (with_reducible repeat (first | apply nA | apply nN | apply nD)); exact HO457.out⟩, ⟨by repeat (with_reducible first | exact HB.out | apply bA | apply bN | apply bD)⟩⟩
            · rw [if_neg c6] at H
              exact absurd H (by simp)
          · replace c5 := Bool.eq_false_iff.mpr c5
            subst c5
            have H1 : (sennitref07_Normal.l1 k1 l0 x3_1 x4_1 ([] : List ByteArray)) = some r := by rw [if_neg (show ¬ (false = true) by decide)] at H; exact H
            clear H
            have H := H1
            clear H1
            have H' := am H
            clear H
            have p452 : 0 ≤ (x4_1 : Int) := of_decide_eq_true (by first | (with_reducible assumption) | assumption)
            have q452 : x4_1 < (l0.length : Int) := of_decide_eq_true (by first | (with_reducible assumption) | assumption)
            obtain ⟨ad452, A452_1, c452_1, A452_2, c452_2, A452_3, c452_3, e452, hx452_0, hx452_1, hx452_2, hx452_3, hl452_1, hi452_1, hl452_2, hi452_2, hl452_3, hi452_3⟩ := at_T27 (Kd.V_reads' HO_0.out).2.2 x4_1 p452 q452
            (try rw [← Nbq4.out] at hx452_0)
            cases e452
            obtain ⟨ce452, hce452, hMe452, hcc452⟩ := Kd.V_get HO_0.out z27 x4_1 p452 (by first | exact q452 | exact of_decide_eq_true (by first | (with_reducible assumption) | assumption) | (have e_ := (Kd.V_reads' HO_0.out).1; omega))
            obtain ⟨ua452_1, uc452_1, ua452_2, uc452_2, ua452_3, uc452_3, rfl, ul452_1, ge452_1, ul452_2, ge452_2, ul452_3, ge452_3⟩ := k27_openF hMe452
            have hv452_1 := hcc452 1 _ rfl
            rw [add_field _ _ 1 (by omega)] at hv452_1
            replace hv452_1 := Option.some.inj (hv452_1.symm.trans hx452_1)
            injection hv452_1 with hva_ hvn_ hvc_
            rw [hva_] at ge452_1
            rw [hvc_] at ul452_1
            have HL452_1 := am (show Kd.V Kd.string 9 _ w.heap.size _ _ ((rd_T27 l0 x4_1).f1) from Kd.V_mk ul452_1 ge452_1)
            clear hva_ hvn_ hvc_ ge452_1 ul452_1
            have hv452_2 := hcc452 2 _ rfl
            rw [add_field _ _ 2 (by omega)] at hv452_2
            replace hv452_2 := Option.some.inj (hv452_2.symm.trans hx452_2)
            injection hv452_2 with hva_ hvn_ hvc_
            rw [hva_] at ge452_2
            rw [hvc_] at ul452_2
            have HL452_2 := am (show Kd.V Kd.string 9 _ w.heap.size _ _ ((rd_T27 l0 x4_1).f2) from Kd.V_mk ul452_2 ge452_2)
            clear hva_ hvn_ hvc_ ge452_2 ul452_2
            have hv452_3 := hcc452 3 _ rfl
            rw [add_field _ _ 3 (by omega)] at hv452_3
            replace hv452_3 := Option.some.inj (hv452_3.symm.trans hx452_3)
            injection hv452_3 with hva_ hvn_ hvc_
            rw [hva_] at ge452_3
            rw [hvc_] at ul452_3
            have HL452_3 := am (show Kd.V (Kd.slice 9 Kd.string) 22 _ w.heap.size _ _ ((rd_T27 l0 x4_1).f3) from Kd.V_mk ul452_3 ge452_3)
            clear hva_ hvn_ hvc_ ge452_3 ul452_3
            clear hcc452 hce452
            have HR452_1 := am hi452_1
            have HC452_1 := am hl452_1
            clear hi452_1 hl452_1
            have HR452_2 := am hi452_2
            have HC452_2 := am hl452_2
            clear hi452_2 hl452_2
            have HR452_3 := am hi452_3
            have HC452_3 := am hl452_3
            clear hi452_3 hl452_3
            replace p452 := eq_true p452
            replace q452 := eq_true q452
            go_wp2
            go_loopg [4, 5] k1 (fun kq v4 v5 w' => ∃ (x4_2 : Int) (x5_2 : List ByteArray), v4 = .int .i64 x4_2 ∧ Aside0 (sennitref07_Normal.l1 kq l0 x3_1 x4_2 x5_2 = some r) ∧ Aside0 (kq ≤ k1) ∧ Aside0 (Kd.V k27 27 w' w.heap.size (fun k_ => (P0_ k_ ∨ w.heap.size ≤ k_) ∧ some k_ ≠ (u3 : Value).ownBlock ∧ some k_ ≠ (v5 : Value).ownBlock) (.slice (some ad452) l0.length c0) l0) ∧ Aside0 (Kd.N k27 27 w' w.heap.size (fun k_ => (P0_ k_ ∨ w.heap.size ≤ k_) ∧ some k_ ≠ (v5 : Value).ownBlock) u3 x3_1) ∧ Aside0 (Kd.R Kd.string 9 w' w.heap.size (fun k_ => (w.heap.size ≤ k_)) v5 x5_2) ∧ Aside0 (Below w.heap.size w w'))
            case atStart => exact ⟨(x4_1), (([] : List ByteArray)), (by first | rfl | (simp; done) | (simp [*]; done)), H', ⟨Nat.le_refl _⟩, ⟨by (with_reducible repeat (first | apply vA | apply vN | apply vD)); exact Kd.V_mono HO_0.out (fun _ hk => ⟨hk.1, ⟨hk.2, (by simp [Value.ownBlock])⟩⟩)⟩, ⟨by (with_reducible repeat (first | apply nA | apply nN | apply nD)); exact Kd.N_mono HO_3.out (fun _ hk => ⟨hk, (by simp [Value.ownBlock])⟩)⟩, ⟨by first | exact Kd.R_nil _ _ _ _ _ | exact Kd.N_nil _ _ _ _ _ | exact Kd.V_nil _ _ _ _ _ | exact Kd.Q_nil _ _ _ _ _ | exact Kd.S_nil _ _ _ _ _⟩, ⟨by repeat (with_reducible first | exact HB.out | apply bA | apply bN | apply bD)⟩⟩
            case round =>
              clear H'
              try clear c2
              try clear c2b0
              try clear p2
              try clear c3
              try clear c3b0
              try clear c4
              try clear p4
              try clear q4
              try clear hx4
              try clear c5
              try clear c6
              try clear p6
              try clear hx452_0
              try clear hx452_1
              try clear hx452_2
              try clear hx452_3
              try clear hx453_0
              try clear hx453_1
              try clear hx453_2
              try clear hx453_3
              try clear hx454_0
              try clear hx454_1
              try clear hx454_2
              try clear hx454_3
              try clear p452
              try clear p453
              try clear p454
              try clear q452
              try clear q453
              try clear q454
              obtain ⟨x4_2, x5_2, rfl, HA, HK2, HO_0, HO_3, HO_5, HB⟩ := hrel
              cases gk with
              | zero => exact absurd HA.out (by simp [sennitref07_Normal.l1])
              | succ k2 =>
                have H := HA.out
                clear HA
                simp only [sennitref07_Normal.l1] at H
                by_cases c9 : x4_2 < (l0.length : Int)
                · rw [if_pos c9] at H
                  have c9b0 : decide (x4_2 < (l0.length : Int)) = true := decide_eq_true c9
                  clear c9
                  by_cases c10 : 0 ≤ x4_2
                  · rw [if_pos c10] at H
                    have c10b0 : decide (0 ≤ x4_2) = true := decide_eq_true c10
                    clear c10
                    obtain ⟨bq11, hbq11⟩ : ∃ b_ : Bool, b_ = ((rd_T27 l0 x4_2).f0) := ⟨_, rfl⟩
                    replace H : (if (bq11 = true) then (if (x5_2.length : Int) > 0 then (if x3_1.length < 1759218604441 then (sennitref07_Normal.l0 k2 l0 (x3_1 ++ [(⟨false, x5_2, ([] : List ByteArray), ([] : List (List ByteArray))⟩ : S27)]) x4_2) else (none)) else (sennitref07_Normal.l0 k2 l0 x3_1 x4_2)) else (if x5_2.length + ((rd_T27 l0 x4_2).f1).length < 8796093022208 then (sennitref07_Normal.l1 k2 l0 x3_1 (wrap64 (x4_2 + 1)) (x5_2 ++ ((rd_T27 l0 x4_2).f1))) else (none))) = some r := by rw [← hbq11] at H; exact H
                    have Nbq11 := am hbq11
                    clear hbq11
                    by_cases c12 : (bq11 = true)
                    · subst c12
                      have H1 : (if (x5_2.length : Int) > 0 then (if x3_1.length < 1759218604441 then (sennitref07_Normal.l0 k2 l0 (x3_1 ++ [(⟨false, x5_2, ([] : List ByteArray), ([] : List (List ByteArray))⟩ : S27)]) x4_2) else (none)) else (sennitref07_Normal.l0 k2 l0 x3_1 x4_2)) = some r := by rw [if_pos rfl] at H; exact H
                      clear H
                      have H := H1
                      clear H1
                      by_cases c13 : (x5_2.length : Int) > 0
                      · rw [if_pos c13] at H
                        have c13b0 : decide (0 < (x5_2.length : Int)) = true := decide_eq_true c13
                        have c13b1 : decide (0 < x5_2.length) = true := decide_eq_true (by omega)
                        clear c13
                        by_cases c14 : x3_1.length < 1759218604441
                        · rw [if_pos c14] at H
                          have LMc14 := am c14
                          clear c14
                          obtain ⟨y459, hy459⟩ : ∃ y_ : List (S27), y_ = (x3_1 ++ [(⟨false, x5_2, ([] : List ByteArray), ([] : List (List ByteArray))⟩ : S27)]) := ⟨_, rfl⟩
                          replace H : (sennitref07_Normal.l0 k2 l0 y459 x4_2) = some r := by first | (rw [hy459]; with_reducible exact H) | (have H2_ := (Option.bind_some _ _).symm.trans H; rw [hy459]; with_reducible exact H2_) | (have H2_ := (Option.bind_some _ _).symm.trans H; with_reducible exact H2_) | with_reducible exact H | (rw [hy459]; exact H) | exact H
                          have Ny459 := am hy459
                          clear hy459
                          have H' := am H
                          clear H
                          have p458 : 0 ≤ (x4_2 : Int) := of_decide_eq_true (by first | (with_reducible assumption) | assumption)
                          have q458 : x4_2 < (l0.length : Int) := of_decide_eq_true (by first | (with_reducible assumption) | assumption)
                          obtain ⟨ad458, A458_1, c458_1, A458_2, c458_2, A458_3, c458_3, e458, hx458_0, hx458_1, hx458_2, hx458_3, hl458_1, hi458_1, hl458_2, hi458_2, hl458_3, hi458_3⟩ := at_T27 (Kd.V_reads' HO_0.out).2.2 x4_2 p458 q458
                          (try rw [← Nbq4.out] at hx458_0)
                          (try rw [← Nbq11.out] at hx458_0)
                          obtain rfl : ad452 = ad458 := (by injection e458)
                          obtain ⟨ce458, hce458, hMe458, hcc458⟩ := Kd.V_get HO_0.out z27 x4_2 p458 (by first | exact q458 | exact of_decide_eq_true (by first | (with_reducible assumption) | assumption) | (have e_ := (Kd.V_reads' HO_0.out).1; omega))
                          obtain ⟨ua458_1, uc458_1, ua458_2, uc458_2, ua458_3, uc458_3, rfl, ul458_1, ge458_1, ul458_2, ge458_2, ul458_3, ge458_3⟩ := k27_openF hMe458
                          have hv458_1 := hcc458 1 _ rfl
                          rw [add_field _ _ 1 (by omega)] at hv458_1
                          replace hv458_1 := Option.some.inj (hv458_1.symm.trans hx458_1)
                          injection hv458_1 with hva_ hvn_ hvc_
                          rw [hva_] at ge458_1
                          rw [hvc_] at ul458_1
                          have HL458_1 := am (show Kd.V Kd.string 9 _ w.heap.size _ _ ((rd_T27 l0 x4_2).f1) from Kd.V_mk ul458_1 ge458_1)
                          clear hva_ hvn_ hvc_ ge458_1 ul458_1
                          have hv458_2 := hcc458 2 _ rfl
                          rw [add_field _ _ 2 (by omega)] at hv458_2
                          replace hv458_2 := Option.some.inj (hv458_2.symm.trans hx458_2)
                          injection hv458_2 with hva_ hvn_ hvc_
                          rw [hva_] at ge458_2
                          rw [hvc_] at ul458_2
                          have HL458_2 := am (show Kd.V Kd.string 9 _ w.heap.size _ _ ((rd_T27 l0 x4_2).f2) from Kd.V_mk ul458_2 ge458_2)
                          clear hva_ hvn_ hvc_ ge458_2 ul458_2
                          have hv458_3 := hcc458 3 _ rfl
                          rw [add_field _ _ 3 (by omega)] at hv458_3
                          replace hv458_3 := Option.some.inj (hv458_3.symm.trans hx458_3)
                          injection hv458_3 with hva_ hvn_ hvc_
                          rw [hva_] at ge458_3
                          rw [hvc_] at ul458_3
                          have HL458_3 := am (show Kd.V (Kd.slice 9 Kd.string) 22 _ w.heap.size _ _ ((rd_T27 l0 x4_2).f3) from Kd.V_mk ul458_3 ge458_3)
                          clear hva_ hvn_ hvc_ ge458_3 ul458_3
                          clear hcc458 hce458
                          have HR458_1 := am hi458_1
                          have HC458_1 := am hl458_1
                          clear hi458_1 hl458_1
                          have HR458_2 := am hi458_2
                          have HC458_2 := am hl458_2
                          clear hi458_2 hl458_2
                          have HR458_3 := am hi458_3
                          have HC458_3 := am hl458_3
                          clear hi458_3 hl458_3
                          replace p458 := eq_true p458
                          replace q458 := eq_true q458
                          obtain ⟨Ao15, co15, eo15⟩ := Kd.R_slice HO_5.out
                          subst eo15
                          go_wp2_with (first | ((with_reducible refine gate_builtin (b := .append) (xs := #[.tmp 55, .tmp 58]) rfl ?_); at_builtin; refine Kd.N_append k27 (w0 := w) w.heap.size rfl (.tmp 55) (.tmp 58) 48 27 (.agg #[(.bool false), (.slice none 0 0), (.slice none 0 0), (.slice none 0 0)]) 80 rfl Try.underlying48 info27 rfl (by decide) (by omega) u3 x3_1 (⟨false, x5_2, ([] : List ByteArray), ([] : List (List ByteArray))⟩ : S27) [.bool false, .slice Ao15 x5_2.length co15, .slice none 0 0, .slice none 0 0] (fun k_ => (P0_ k_ ∨ w.heap.size ≤ k_)) (fun k_ => ((fun k_ => (P0_ k_ ∨ w.heap.size ≤ k_))) k_ ∧ some k_ ≠ (u3 : Value).ownBlock) rfl rfl ?aP (fun _ hk => hk) ?aF ?aO ?aB ?aS ?aL ?_; (case aP => exact (k27_mkF _ _ (⟨false, x5_2, ([] : List ByteArray), ([] : List (List ByteArray))⟩ : S27) (Kd.R_reads' (Kd.R_mono (ok' := (fun k_ => ((fun k_ => (P0_ k_ ∨ w.heap.size ≤ k_))) k_ ∧ some k_ ≠ (u3 : Value).ownBlock)) (Kd.R_apart' (HO_5.out) (Kd.N_typed HO_3.out) (by decide)) (fun k_ hk => ⟨(.inr (hk.1)), hk.2⟩))).2.1 (Kd.R_F (Kd.R_mono (ok' := (fun k_ => ((fun k_ => (P0_ k_ ∨ w.heap.size ≤ k_))) k_ ∧ some k_ ≠ (u3 : Value).ownBlock)) (Kd.R_apart' (HO_5.out) (Kd.N_typed HO_3.out) (by decide)) (fun k_ hk => ⟨(.inr (hk.1)), hk.2⟩))) (Nat.le_refl _) (Kd.F_nil _ _ _) (Nat.le_refl _) (Kd.F_nil _ _ _))); (case aB => exact (by repeat (with_reducible first | exact HB.out | apply bA | apply bN | apply bD))); (case aF => exact (fun k_ hk => (.inr (Nat.le_trans (below_size (by repeat (with_reducible first | exact HB.out | apply bA | apply bN | apply bD))) hk)))); (case aO => exact (by (with_reducible repeat (first | apply nA | apply nN | apply nD)); exact Kd.N_mono HO_3.out (fun _ hk => hk.1))); (case aS => exact (below_size (by repeat (with_reducible first | exact HB.out | apply bA | apply bN | apply bD)))); (case aL => have := LMc14.out; omega); intro v460 w16 ho hb hg hat; rw [← Ny459.out] at ho; have n0_ := am (Kd.V_afterv (ok := (fun k_ => (P0_ k_ ∨ w.heap.size ≤ k_) ∧ some k_ ≠ (.slice Ao15 x5_2.length co15 : Value).ownBlock)) (by (with_reducible repeat (first | apply vA | apply vN | apply vD)); exact Kd.V_mono HO_0.out (fun _ hk => ⟨⟨hk.1, hk.2.2⟩, hk.2.1⟩)) hg hat); have n1_ := am (Kd.V_afterv (ok := (fun k_ => (P0_ k_ ∨ w.heap.size ≤ k_) ∧ some k_ ≠ (.slice Ao15 x5_2.length co15 : Value).ownBlock)) (by (with_reducible repeat (first | apply vA | apply vN | apply vD)); exact Kd.V_mono HL458_1.out (fun _ hk => ⟨⟨hk.1, hk.2.2⟩, hk.2.1⟩)) hg hat); have n2_ := am (Kd.V_afterv (ok := (fun k_ => (P0_ k_ ∨ w.heap.size ≤ k_) ∧ some k_ ≠ (.slice Ao15 x5_2.length co15 : Value).ownBlock)) (by (with_reducible repeat (first | apply vA | apply vN | apply vD)); exact Kd.V_mono HL458_2.out (fun _ hk => ⟨⟨hk.1, hk.2.2⟩, hk.2.1⟩)) hg hat); have n3_ := am (Kd.V_afterv (ok := (fun k_ => (P0_ k_ ∨ w.heap.size ≤ k_) ∧ some k_ ≠ (.slice Ao15 x5_2.length co15 : Value).ownBlock)) (by (with_reducible repeat (first | apply vA | apply vN | apply vD)); exact Kd.V_mono HL458_3.out (fun _ hk => ⟨⟨hk.1, hk.2.2⟩, hk.2.1⟩)) hg hat); have n4_ := am (hb); have n5_ := am (ho); clear HO_0; clear HL458_1; clear HL458_2; clear HL458_3; clear HB; clear HO_3; clear HO_5; have HO_0 := n0_; have HL458_1 := n1_; have HL458_2 := n2_; have HL458_3 := n3_; have HB := n4_; have HO461 := n5_; clear n0_ n1_ n2_ n3_ n4_ n5_; clear ho hb hg hat))
                          go_roundg k2
                          case measure => have := HK1.out; have := HK2.out; omega
                          case rel => exact ⟨(y459), (x4_2), (by first | rfl | (simp; done) | (simp [*]; done)), H', ⟨by have := HK1.out; have := HK2.out; omega⟩, ⟨by (with_reducible repeat (first | apply vA | apply vN | apply vD)); exact Kd.V_mono HO_0.out (fun _ hk => ⟨hk.1.1, hk.2⟩)⟩, ⟨by (with_reducible repeat (first | apply nA | apply nN | apply nD)); exact HO461.out⟩, ⟨by repeat (with_reducible first | exact HB.out | apply bA | apply bN | apply bD)⟩⟩
                        · rw [if_neg c14] at H
                          exact absurd H (by simp)
                      · rw [if_neg c13] at H
                        have c13b0 : decide (0 < (x5_2.length : Int)) = false := decide_eq_false c13
                        have c13b1 : decide (0 < x5_2.length) = false := decide_eq_false (by omega)
                        clear c13
                        have H' := am H
                        clear H
                        have p458 : 0 ≤ (x4_2 : Int) := of_decide_eq_true (by first | (with_reducible assumption) | assumption)
                        have q458 : x4_2 < (l0.length : Int) := of_decide_eq_true (by first | (with_reducible assumption) | assumption)
                        obtain ⟨ad458, A458_1, c458_1, A458_2, c458_2, A458_3, c458_3, e458, hx458_0, hx458_1, hx458_2, hx458_3, hl458_1, hi458_1, hl458_2, hi458_2, hl458_3, hi458_3⟩ := at_T27 (Kd.V_reads' HO_0.out).2.2 x4_2 p458 q458
                        (try rw [← Nbq4.out] at hx458_0)
                        (try rw [← Nbq11.out] at hx458_0)
                        obtain rfl : ad452 = ad458 := (by injection e458)
                        obtain ⟨ce458, hce458, hMe458, hcc458⟩ := Kd.V_get HO_0.out z27 x4_2 p458 (by first | exact q458 | exact of_decide_eq_true (by first | (with_reducible assumption) | assumption) | (have e_ := (Kd.V_reads' HO_0.out).1; omega))
                        obtain ⟨ua458_1, uc458_1, ua458_2, uc458_2, ua458_3, uc458_3, rfl, ul458_1, ge458_1, ul458_2, ge458_2, ul458_3, ge458_3⟩ := k27_openF hMe458
                        have hv458_1 := hcc458 1 _ rfl
                        rw [add_field _ _ 1 (by omega)] at hv458_1
                        replace hv458_1 := Option.some.inj (hv458_1.symm.trans hx458_1)
                        injection hv458_1 with hva_ hvn_ hvc_
                        rw [hva_] at ge458_1
                        rw [hvc_] at ul458_1
                        have HL458_1 := am (show Kd.V Kd.string 9 _ w.heap.size _ _ ((rd_T27 l0 x4_2).f1) from Kd.V_mk ul458_1 ge458_1)
                        clear hva_ hvn_ hvc_ ge458_1 ul458_1
                        have hv458_2 := hcc458 2 _ rfl
                        rw [add_field _ _ 2 (by omega)] at hv458_2
                        replace hv458_2 := Option.some.inj (hv458_2.symm.trans hx458_2)
                        injection hv458_2 with hva_ hvn_ hvc_
                        rw [hva_] at ge458_2
                        rw [hvc_] at ul458_2
                        have HL458_2 := am (show Kd.V Kd.string 9 _ w.heap.size _ _ ((rd_T27 l0 x4_2).f2) from Kd.V_mk ul458_2 ge458_2)
                        clear hva_ hvn_ hvc_ ge458_2 ul458_2
                        have hv458_3 := hcc458 3 _ rfl
                        rw [add_field _ _ 3 (by omega)] at hv458_3
                        replace hv458_3 := Option.some.inj (hv458_3.symm.trans hx458_3)
                        injection hv458_3 with hva_ hvn_ hvc_
                        rw [hva_] at ge458_3
                        rw [hvc_] at ul458_3
                        have HL458_3 := am (show Kd.V (Kd.slice 9 Kd.string) 22 _ w.heap.size _ _ ((rd_T27 l0 x4_2).f3) from Kd.V_mk ul458_3 ge458_3)
                        clear hva_ hvn_ hvc_ ge458_3 ul458_3
                        clear hcc458 hce458
                        have HR458_1 := am hi458_1
                        have HC458_1 := am hl458_1
                        clear hi458_1 hl458_1
                        have HR458_2 := am hi458_2
                        have HC458_2 := am hl458_2
                        clear hi458_2 hl458_2
                        have HR458_3 := am hi458_3
                        have HC458_3 := am hl458_3
                        clear hi458_3 hl458_3
                        replace p458 := eq_true p458
                        replace q458 := eq_true q458
                        obtain ⟨Ao17, co17, eo17⟩ := Kd.R_slice HO_5.out
                        subst eo17
                        go_wp2
                        go_roundg k2
                        case measure => have := HK1.out; have := HK2.out; omega
                        case rel => exact ⟨(x3_1), (x4_2), (by first | rfl | (simp; done) | (simp [*]; done)), H', ⟨by have := HK1.out; have := HK2.out; omega⟩, ⟨by (with_reducible repeat (first | apply vA | apply vN | apply vD)); exact Kd.V_mono HO_0.out (fun _ hk => ⟨hk.1, hk.2.1⟩)⟩, ⟨by (with_reducible repeat (first | apply nA | apply nN | apply nD)); exact Kd.N_mono HO_3.out (fun _ hk => hk.1)⟩, ⟨by repeat (with_reducible first | exact HB.out | apply bA | apply bN | apply bD)⟩⟩
                    · replace c12 := Bool.eq_false_iff.mpr c12
                      subst c12
                      have H1 : (if x5_2.length + ((rd_T27 l0 x4_2).f1).length < 8796093022208 then (sennitref07_Normal.l1 k2 l0 x3_1 (wrap64 (x4_2 + 1)) (x5_2 ++ ((rd_T27 l0 x4_2).f1))) else (none)) = some r := by rw [if_neg (show ¬ (false = true) by decide)] at H; exact H
                      clear H
                      have H := H1
                      clear H1
                      by_cases c18 : x5_2.length + ((rd_T27 l0 x4_2).f1).length < 8796093022208
                      · rw [if_pos c18] at H
                        have LMc18 := am c18
                        clear c18
                        obtain ⟨y463, hy463⟩ : ∃ y_ : List ByteArray, y_ = (x5_2 ++ ((rd_T27 l0 x4_2).f1)) := ⟨_, rfl⟩
                        replace H : (sennitref07_Normal.l1 k2 l0 x3_1 (wrap64 (x4_2 + 1)) y463) = some r := by first | (rw [hy463]; with_reducible exact H) | (have H2_ := (Option.bind_some _ _).symm.trans H; rw [hy463]; with_reducible exact H2_) | (have H2_ := (Option.bind_some _ _).symm.trans H; with_reducible exact H2_) | with_reducible exact H | (rw [hy463]; exact H) | exact H
                        have Ny463 := am hy463
                        clear hy463
                        have H' := am H
                        clear H
                        have p458 : 0 ≤ (x4_2 : Int) := of_decide_eq_true (by first | (with_reducible assumption) | assumption)
                        have q458 : x4_2 < (l0.length : Int) := of_decide_eq_true (by first | (with_reducible assumption) | assumption)
                        obtain ⟨ad458, A458_1, c458_1, A458_2, c458_2, A458_3, c458_3, e458, hx458_0, hx458_1, hx458_2, hx458_3, hl458_1, hi458_1, hl458_2, hi458_2, hl458_3, hi458_3⟩ := at_T27 (Kd.V_reads' HO_0.out).2.2 x4_2 p458 q458
                        (try rw [← Nbq4.out] at hx458_0)
                        (try rw [← Nbq11.out] at hx458_0)
                        obtain rfl : ad452 = ad458 := (by injection e458)
                        obtain ⟨ce458, hce458, hMe458, hcc458⟩ := Kd.V_get HO_0.out z27 x4_2 p458 (by first | exact q458 | exact of_decide_eq_true (by first | (with_reducible assumption) | assumption) | (have e_ := (Kd.V_reads' HO_0.out).1; omega))
                        obtain ⟨ua458_1, uc458_1, ua458_2, uc458_2, ua458_3, uc458_3, rfl, ul458_1, ge458_1, ul458_2, ge458_2, ul458_3, ge458_3⟩ := k27_openF hMe458
                        have hv458_1 := hcc458 1 _ rfl
                        rw [add_field _ _ 1 (by omega)] at hv458_1
                        replace hv458_1 := Option.some.inj (hv458_1.symm.trans hx458_1)
                        injection hv458_1 with hva_ hvn_ hvc_
                        rw [hva_] at ge458_1
                        rw [hvc_] at ul458_1
                        have HL458_1 := am (show Kd.V Kd.string 9 _ w.heap.size _ _ ((rd_T27 l0 x4_2).f1) from Kd.V_mk ul458_1 ge458_1)
                        clear hva_ hvn_ hvc_ ge458_1 ul458_1
                        have hv458_2 := hcc458 2 _ rfl
                        rw [add_field _ _ 2 (by omega)] at hv458_2
                        replace hv458_2 := Option.some.inj (hv458_2.symm.trans hx458_2)
                        injection hv458_2 with hva_ hvn_ hvc_
                        rw [hva_] at ge458_2
                        rw [hvc_] at ul458_2
                        have HL458_2 := am (show Kd.V Kd.string 9 _ w.heap.size _ _ ((rd_T27 l0 x4_2).f2) from Kd.V_mk ul458_2 ge458_2)
                        clear hva_ hvn_ hvc_ ge458_2 ul458_2
                        have hv458_3 := hcc458 3 _ rfl
                        rw [add_field _ _ 3 (by omega)] at hv458_3
                        replace hv458_3 := Option.some.inj (hv458_3.symm.trans hx458_3)
                        injection hv458_3 with hva_ hvn_ hvc_
                        rw [hva_] at ge458_3
                        rw [hvc_] at ul458_3
                        have HL458_3 := am (show Kd.V (Kd.slice 9 Kd.string) 22 _ w.heap.size _ _ ((rd_T27 l0 x4_2).f3) from Kd.V_mk ul458_3 ge458_3)
                        clear hva_ hvn_ hvc_ ge458_3 ul458_3
                        clear hcc458 hce458
                        have HR458_1 := am hi458_1
                        have HC458_1 := am hl458_1
                        clear hi458_1 hl458_1
                        have HR458_2 := am hi458_2
                        have HC458_2 := am hl458_2
                        clear hi458_2 hl458_2
                        have HR458_3 := am hi458_3
                        have HC458_3 := am hl458_3
                        clear hi458_3 hl458_3
                        replace p458 := eq_true p458
                        replace q458 := eq_true q458
                        have p462 : 0 ≤ (x4_2 : Int) := of_decide_eq_true (by first | (with_reducible assumption) | assumption)
                        have q462 : x4_2 < (l0.length : Int) := of_decide_eq_true (by first | (with_reducible assumption) | assumption)
                        obtain ⟨ad462, A462_1, c462_1, A462_2, c462_2, A462_3, c462_3, e462, hx462_0, hx462_1, hx462_2, hx462_3, hl462_1, hi462_1, hl462_2, hi462_2, hl462_3, hi462_3⟩ := at_T27 (Kd.V_reads' HO_0.out).2.2 x4_2 p462 q462
                        (try rw [← Nbq4.out] at hx462_0)
                        (try rw [← Nbq11.out] at hx462_0)
                        obtain rfl : ad452 = ad462 := (by injection e462)
                        obtain ⟨ce462, hce462, hMe462, hcc462⟩ := Kd.V_get HO_0.out z27 x4_2 p462 (by first | exact q462 | exact of_decide_eq_true (by first | (with_reducible assumption) | assumption) | (have e_ := (Kd.V_reads' HO_0.out).1; omega))
                        obtain ⟨ua462_1, uc462_1, ua462_2, uc462_2, ua462_3, uc462_3, rfl, ul462_1, ge462_1, ul462_2, ge462_2, ul462_3, ge462_3⟩ := k27_openF hMe462
                        have hv462_1 := hcc462 1 _ rfl
                        rw [add_field _ _ 1 (by omega)] at hv462_1
                        replace hv462_1 := Option.some.inj (hv462_1.symm.trans hx462_1)
                        injection hv462_1 with hva_ hvn_ hvc_
                        rw [hva_] at ge462_1
                        rw [hvc_] at ul462_1
                        have HL462_1 := am (show Kd.V Kd.string 9 _ w.heap.size _ _ ((rd_T27 l0 x4_2).f1) from Kd.V_mk ul462_1 ge462_1)
                        clear hva_ hvn_ hvc_ ge462_1 ul462_1
                        have hv462_2 := hcc462 2 _ rfl
                        rw [add_field _ _ 2 (by omega)] at hv462_2
                        replace hv462_2 := Option.some.inj (hv462_2.symm.trans hx462_2)
                        injection hv462_2 with hva_ hvn_ hvc_
                        rw [hva_] at ge462_2
                        rw [hvc_] at ul462_2
                        have HL462_2 := am (show Kd.V Kd.string 9 _ w.heap.size _ _ ((rd_T27 l0 x4_2).f2) from Kd.V_mk ul462_2 ge462_2)
                        clear hva_ hvn_ hvc_ ge462_2 ul462_2
                        have hv462_3 := hcc462 3 _ rfl
                        rw [add_field _ _ 3 (by omega)] at hv462_3
                        replace hv462_3 := Option.some.inj (hv462_3.symm.trans hx462_3)
                        injection hv462_3 with hva_ hvn_ hvc_
                        rw [hva_] at ge462_3
                        rw [hvc_] at ul462_3
                        have HL462_3 := am (show Kd.V (Kd.slice 9 Kd.string) 22 _ w.heap.size _ _ ((rd_T27 l0 x4_2).f3) from Kd.V_mk ul462_3 ge462_3)
                        clear hva_ hvn_ hvc_ ge462_3 ul462_3
                        clear hcc462 hce462
                        have HR462_1 := am hi462_1
                        have HC462_1 := am hl462_1
                        clear hi462_1 hl462_1
                        have HR462_2 := am hi462_2
                        have HC462_2 := am hl462_2
                        clear hi462_2 hl462_2
                        have HR462_3 := am hi462_3
                        have HC462_3 := am hl462_3
                        clear hi462_3 hl462_3
                        replace p462 := eq_true p462
                        replace q462 := eq_true q462
                        have ea_ := Option.some.inj (hx458_1.symm.trans hx462_1)
                        injection ea_ with ea_ en_ ec_
                        subst ea_
                        subst ec_
                        clear en_
                        have ea_ := Option.some.inj (hx458_2.symm.trans hx462_2)
                        injection ea_ with ea_ en_ ec_
                        subst ea_
                        subst ec_
                        clear en_
                        have ea_ := Option.some.inj (hx458_3.symm.trans hx462_3)
                        injection ea_ with ea_ en_ ec_
                        subst ea_
                        subst ec_
                        clear en_
                        go_wp2_with (first | ((with_reducible refine gate_builtin (b := .append) (xs := #[.tmp 43, .tmp 48]) rfl ?_); at_builtin; refine Kd.R_append_rows Kd.string (w0 := w) w.heap.size rfl (.tmp 43) (.tmp 48) 22 9 (.string ⟨#[]⟩) 16 rfl Try.underlying22 info9 rfl (by decide) (by omega) u5 x5_2 ((rd_T27 l0 x4_2).f1) _ _ _ (fun k_ => (w.heap.size ≤ k_)) (fun _ => False) rfl rfl ?aO ?aR (fun _ _ h => h) (fun _ h => h.elim) ?aF ?aB ?aS ?aL ?_; (case aR => repeat (first | exact (by repeat (first | (with_reducible exact HR462_1.out) | (with_reducible refine Kd.C_alloc ?_ _) | (with_reducible refine Kd.C_drewN ?_ _) | (with_reducible refine Kd.C_drew ?_) | exact HR462_1.out)) | (with_reducible refine Kd.C_alloc ?_ _) | (with_reducible refine Kd.C_drewN ?_ _) | (with_reducible refine Kd.C_drew ?_))); (case aB => exact (by repeat (with_reducible first | exact HB.out | apply bA | apply bN | apply bD))); (case aF => exact (fun k_ hk => (Nat.le_trans (below_size (by repeat (with_reducible first | exact HB.out | apply bA | apply bN | apply bD))) hk))); (case aO => exact (by (with_reducible repeat (first | apply rA | apply rN | apply rD)); exact HO_5.out)); (case aS => exact (below_size (by repeat (with_reducible first | exact HB.out | apply bA | apply bN | apply bD)))); (case aL => have := LMc18.out; omega); intro v464 w19 ho hb hg hat; rw [← Ny463.out] at ho; have n0_ := am (Kd.V_afterv (ok := (fun k_ => (P0_ k_ ∨ w.heap.size ≤ k_) ∧ some k_ ≠ (u3 : Value).ownBlock)) (by (with_reducible repeat (first | apply vA | apply vN | apply vD)); exact Kd.V_mono HO_0.out (fun _ hk => ⟨⟨hk.1, hk.2.1⟩, hk.2.2⟩)) hg hat); have n1_ := am (Kd.N_afterv (ok := (fun k_ => (P0_ k_ ∨ w.heap.size ≤ k_))) (by (with_reducible repeat (first | apply nA | apply nN | apply nD)); exact HO_3.out) hg hat); have n2_ := am (Kd.V_afterv (ok := (fun k_ => (P0_ k_ ∨ w.heap.size ≤ k_) ∧ some k_ ≠ (u3 : Value).ownBlock)) (by (with_reducible repeat (first | apply vA | apply vN | apply vD)); exact Kd.V_mono HL458_1.out (fun _ hk => ⟨⟨hk.1, hk.2.1⟩, hk.2.2⟩)) hg hat); have n3_ := am (Kd.V_afterv (ok := (fun k_ => (P0_ k_ ∨ w.heap.size ≤ k_) ∧ some k_ ≠ (u3 : Value).ownBlock)) (by (with_reducible repeat (first | apply vA | apply vN | apply vD)); exact Kd.V_mono HL458_2.out (fun _ hk => ⟨⟨hk.1, hk.2.1⟩, hk.2.2⟩)) hg hat); have n4_ := am (Kd.V_afterv (ok := (fun k_ => (P0_ k_ ∨ w.heap.size ≤ k_) ∧ some k_ ≠ (u3 : Value).ownBlock)) (by (with_reducible repeat (first | apply vA | apply vN | apply vD)); exact Kd.V_mono HL458_3.out (fun _ hk => ⟨⟨hk.1, hk.2.1⟩, hk.2.2⟩)) hg hat); have n5_ := am (Kd.V_afterv (ok := (fun k_ => (P0_ k_ ∨ w.heap.size ≤ k_) ∧ some k_ ≠ (u3 : Value).ownBlock)) (by (with_reducible repeat (first | apply vA | apply vN | apply vD)); exact Kd.V_mono HL462_1.out (fun _ hk => ⟨⟨hk.1, hk.2.1⟩, hk.2.2⟩)) hg hat); have n6_ := am (Kd.V_afterv (ok := (fun k_ => (P0_ k_ ∨ w.heap.size ≤ k_) ∧ some k_ ≠ (u3 : Value).ownBlock)) (by (with_reducible repeat (first | apply vA | apply vN | apply vD)); exact Kd.V_mono HL462_2.out (fun _ hk => ⟨⟨hk.1, hk.2.1⟩, hk.2.2⟩)) hg hat); have n7_ := am (Kd.V_afterv (ok := (fun k_ => (P0_ k_ ∨ w.heap.size ≤ k_) ∧ some k_ ≠ (u3 : Value).ownBlock)) (by (with_reducible repeat (first | apply vA | apply vN | apply vD)); exact Kd.V_mono HL462_3.out (fun _ hk => ⟨⟨hk.1, hk.2.1⟩, hk.2.2⟩)) hg hat); have n8_ := am (hb); have n9_ := am (ho); clear HO_0; clear HO_3; clear HL458_1; clear HL458_2; clear HL458_3; clear HL462_1; clear HL462_2; clear HL462_3; clear HB; clear HO_5; have HO_0 := n0_; have HO_3 := n1_; have HL458_1 := n2_; have HL458_2 := n3_; have HL458_3 := n4_; have HL462_1 := n5_; have HL462_2 := n6_; have HL462_3 := n7_; have HB := n8_; have HO465 := n9_; clear n0_ n1_ n2_ n3_ n4_ n5_ n6_ n7_ n8_ n9_; clear ho hb hg hat))
                        go_roundg k2
                        case measure => have := HK1.out; have := HK2.out; omega
                        case rel => exact ⟨(wrap64 (x4_2 + 1)), (y463), (by first | rfl | (simp; done) | (simp [*]; done)), H', ⟨by have := HK1.out; have := HK2.out; omega⟩, ⟨by (with_reducible repeat (first | apply vA | apply vN | apply vD)); exact Kd.V_mono HO_0.out (fun _ hk => ⟨hk.1.1, ⟨hk.1.2, hk.2⟩⟩)⟩, ⟨by (with_reducible repeat (first | apply nA | apply nN | apply nD)); exact HO_3.out⟩, ⟨by (with_reducible repeat (first | apply rA | apply rN | apply rD)); exact HO465.out⟩, ⟨by repeat (with_reducible first | exact HB.out | apply bA | apply bN | apply bD)⟩⟩
                      · rw [if_neg c18] at H
                        exact absurd H (by simp)
                  · rw [if_neg c10] at H
                    exact absurd H (by simp)
                · rw [if_neg c9] at H
                  have c9b0 : decide (x4_2 < (l0.length : Int)) = false := decide_eq_false c9
                  clear c9
                  by_cases c20 : (x5_2.length : Int) > 0
                  · rw [if_pos c20] at H
                    have c20b0 : decide (0 < (x5_2.length : Int)) = true := decide_eq_true c20
                    have c20b1 : decide (0 < x5_2.length) = true := decide_eq_true (by omega)
                    clear c20
                    by_cases c21 : x3_1.length < 1759218604441
                    · rw [if_pos c21] at H
                      have LMc21 := am c21
                      clear c21
                      obtain ⟨y466, hy466⟩ : ∃ y_ : List (S27), y_ = (x3_1 ++ [(⟨false, x5_2, ([] : List ByteArray), ([] : List (List ByteArray))⟩ : S27)]) := ⟨_, rfl⟩
                      replace H : (sennitref07_Normal.l0 k2 l0 y466 x4_2) = some r := by first | (rw [hy466]; with_reducible exact H) | (have H2_ := (Option.bind_some _ _).symm.trans H; rw [hy466]; with_reducible exact H2_) | (have H2_ := (Option.bind_some _ _).symm.trans H; with_reducible exact H2_) | with_reducible exact H | (rw [hy466]; exact H) | exact H
                      have Ny466 := am hy466
                      clear hy466
                      have H' := am H
                      clear H
                      obtain ⟨Ao22, co22, eo22⟩ := Kd.R_slice HO_5.out
                      subst eo22
                      go_wp2_with (first | ((with_reducible refine gate_builtin (b := .append) (xs := #[.tmp 55, .tmp 58]) rfl ?_); at_builtin; refine Kd.N_append k27 (w0 := w) w.heap.size rfl (.tmp 55) (.tmp 58) 48 27 (.agg #[(.bool false), (.slice none 0 0), (.slice none 0 0), (.slice none 0 0)]) 80 rfl Try.underlying48 info27 rfl (by decide) (by omega) u3 x3_1 (⟨false, x5_2, ([] : List ByteArray), ([] : List (List ByteArray))⟩ : S27) [.bool false, .slice Ao22 x5_2.length co22, .slice none 0 0, .slice none 0 0] (fun k_ => (P0_ k_ ∨ w.heap.size ≤ k_)) (fun k_ => ((fun k_ => (P0_ k_ ∨ w.heap.size ≤ k_))) k_ ∧ some k_ ≠ (u3 : Value).ownBlock) rfl rfl ?aP (fun _ hk => hk) ?aF ?aO ?aB ?aS ?aL ?_; (case aP => exact (k27_mkF _ _ (⟨false, x5_2, ([] : List ByteArray), ([] : List (List ByteArray))⟩ : S27) (Kd.R_reads' (Kd.R_mono (ok' := (fun k_ => ((fun k_ => (P0_ k_ ∨ w.heap.size ≤ k_))) k_ ∧ some k_ ≠ (u3 : Value).ownBlock)) (Kd.R_apart' (HO_5.out) (Kd.N_typed HO_3.out) (by decide)) (fun k_ hk => ⟨(.inr (hk.1)), hk.2⟩))).2.1 (Kd.R_F (Kd.R_mono (ok' := (fun k_ => ((fun k_ => (P0_ k_ ∨ w.heap.size ≤ k_))) k_ ∧ some k_ ≠ (u3 : Value).ownBlock)) (Kd.R_apart' (HO_5.out) (Kd.N_typed HO_3.out) (by decide)) (fun k_ hk => ⟨(.inr (hk.1)), hk.2⟩))) (Nat.le_refl _) (Kd.F_nil _ _ _) (Nat.le_refl _) (Kd.F_nil _ _ _))); (case aB => exact (by repeat (with_reducible first | exact HB.out | apply bA | apply bN | apply bD))); (case aF => exact (fun k_ hk => (.inr (Nat.le_trans (below_size (by repeat (with_reducible first | exact HB.out | apply bA | apply bN | apply bD))) hk)))); (case aO => exact (by (with_reducible repeat (first | apply nA | apply nN | apply nD)); exact Kd.N_mono HO_3.out (fun _ hk => hk.1))); (case aS => exact (below_size (by repeat (with_reducible first | exact HB.out | apply bA | apply bN | apply bD)))); (case aL => have := LMc21.out; omega); intro v467 w23 ho hb hg hat; rw [← Ny466.out] at ho; have n0_ := am (Kd.V_afterv (ok := (fun k_ => (P0_ k_ ∨ w.heap.size ≤ k_) ∧ some k_ ≠ (.slice Ao22 x5_2.length co22 : Value).ownBlock)) (by (with_reducible repeat (first | apply vA | apply vN | apply vD)); exact Kd.V_mono HO_0.out (fun _ hk => ⟨⟨hk.1, hk.2.2⟩, hk.2.1⟩)) hg hat); have n1_ := am (hb); have n2_ := am (ho); clear HO_0; clear HB; clear HO_3; clear HO_5; have HO_0 := n0_; have HB := n1_; have HO468 := n2_; clear n0_ n1_ n2_; clear ho hb hg hat))
                      go_roundg k2
                      case measure => have := HK1.out; have := HK2.out; omega
                      case rel => exact ⟨(y466), (x4_2), (by first | rfl | (simp; done) | (simp [*]; done)), H', ⟨by have := HK1.out; have := HK2.out; omega⟩, ⟨by (with_reducible repeat (first | apply vA | apply vN | apply vD)); exact Kd.V_mono HO_0.out (fun _ hk => ⟨hk.1.1, hk.2⟩)⟩, ⟨by (with_reducible repeat (first | apply nA | apply nN | apply nD)); exact HO468.out⟩, ⟨by repeat (with_reducible first | exact HB.out | apply bA | apply bN | apply bD)⟩⟩
                    · rw [if_neg c21] at H
                      exact absurd H (by simp)
                  · rw [if_neg c20] at H
                    have c20b0 : decide (0 < (x5_2.length : Int)) = false := decide_eq_false c20
                    have c20b1 : decide (0 < x5_2.length) = false := decide_eq_false (by omega)
                    clear c20
                    have H' := am H
                    clear H
                    obtain ⟨Ao24, co24, eo24⟩ := Kd.R_slice HO_5.out
                    subst eo24
                    go_wp2
                    go_roundg k2
                    case measure => have := HK1.out; have := HK2.out; omega
                    case rel => exact ⟨(x3_1), (x4_2), (by first | rfl | (simp; done) | (simp [*]; done)), H', ⟨by have := HK1.out; have := HK2.out; omega⟩, ⟨by (with_reducible repeat (first | apply vA | apply vN | apply vD)); exact Kd.V_mono HO_0.out (fun _ hk => ⟨hk.1, hk.2.1⟩)⟩, ⟨by (with_reducible repeat (first | apply nA | apply nN | apply nD)); exact Kd.N_mono HO_3.out (fun _ hk => hk.1)⟩, ⟨by repeat (with_reducible first | exact HB.out | apply bA | apply bN | apply bD)⟩⟩
        · rw [if_neg c3] at H
          exact absurd H (by simp)
      · rw [if_neg c2] at H
        have c2b0 : decide (x4_1 < (l0.length : Int)) = false := decide_eq_false c2
        clear c2
        obtain rfl := Option.some.inj H
        go_wp2
        go_ret
        exact ⟨_, by first | rfl | (simp [errW_none, errW_some] <;> rfl) | (simp [*, errW_none, errW_some] <;> rfl), by (with_reducible repeat (first | apply nA | apply nN | apply nD)); exact HO_3.out, by repeat (with_reducible first | exact HB.out | apply bA | apply bN | apply bD)⟩

end Go.Proofs.Ytiaoppikdgoieaa.M
namespace Go.Proofs.Ytiaoppikdgoieaa.M
open Go.RowKit Go.Proofs.YtiaoppikdgoieaaW.PrintWords Go.Proofs.YtiaoppikdgoieaaW.PrintLast Go.Proofs.YtiaoppikdgoieaaW.PrintMore Go.Proofs.Ytiaoppikdgoieaa.Hand
set_option linter.unusedVariables false
set_option linter.unusedSimpArgs false

set_option maxHeartbeats 4000000 in
set_option maxRecDepth 100000 in
theorem others_calls (A0 : Option Addr) (c0 : Nat) (l0 : List ByteArray) (P1_ : Nat → Prop) (A1 : Option Addr) (c1 : Nat) (l1 : List (List ByteArray)) (w : World) (hr0 : Kd.C Kd.string w A0 l0.length l0) (hc0 : l0.length ≤ c0)
    (hs1 : Kd.V (Kd.slice 9 Kd.string) 22 w w.heap.size (fun k_ => P1_ k_) (.slice A1 l1.length c1) l1) (hlen : (othersG l0 l1 []).length ≤ 5864062014805) :
    Calls Try.prog 51 #[.slice A0 l0.length c0, .slice A1 l1.length c1, .func (.func 52) #[] #[]] w fun e w' => ∃ v0_ : Value, e = .returned (v0_) ∧ Kd.N (Kd.slice 9 Kd.string) 22 w' w.heap.size (fun k_ => (P1_ k_ ∨ w.heap.size ≤ k_)) v0_ (othersG l0 l1 []) ∧ Below w.heap.size w w' := by
  have HR0 := Aside0.mk hr0
  have HC0 := Aside0.mk hc0
  have HS1 := Aside0.mk (Kd.V_bound hs1)
  have HL := Aside0.mk (Kd.V_reads' hs1).2.2.2.1
  have HLE := Aside0.mk hlen
  clear hr0 hc0 hs1 hlen
  go_enter Try.func51, Try.ntmps51
  go_wp2
  repeat (go_quiet (fail); try go_wp2)
  go_loopg [7, 13] l1.length (fun kq v7 v13 wr => ∃ i : Nat, v13 = .int .i64 (i : Int) ∧ Aside0 (i ≤ l1.length ∧ kq = l1.length - i) ∧
    Aside0 (Kd.N (Kd.slice 9 Kd.string) 22 wr w.heap.size (fun k_ => (P1_ k_ ∨ w.heap.size ≤ k_)) v7 (othersG l0 (l1.take i) [])) ∧ Aside0 (wr.heap[w.heap.size]? = some (.cells #[.func (.func 52) #[] #[]] 33 (0, 0))) ∧ Aside0 (Below w.heap.size w wr))
  case atStart => exact ⟨0, rfl, ⟨Nat.zero_le _, rfl⟩, ⟨Kd.N_nil _ _ _ _ _⟩, ⟨heap_alloc_new _ _⟩, ⟨(Below.refl _ _).alloc (Nat.le_refl _) _⟩⟩
  case round =>
    obtain ⟨i, rfl, HI, HO, HF, HB⟩ := hrel
    have hli := HL.out
    by_cases c4 : i < l1.length
    · have c4b0 : decide ((i : Int) < (l1.length : Int)) = true := decide_eq_true (by omega)
      have c4b1 : decide (i < l1.length) = true := decide_eq_true c4
      have hV := Kd.V_below (Kd.V_mono HS1.out (fun _ h => h)) HB.out
      obtain ⟨z, g0⟩ : ∃ z, l1[i]? = some z := ⟨_, List.getElem?_eq_getElem c4⟩
      obtain ⟨ad, A2, c2, rfl, hx, hl, hi, hf⟩ := V_row hV i z g0
      have hsn := othersG_snoc l0 (l1.take i) [] z
      rw [← take_snoc l1 i z g0] at hsn
      have HSN := Aside0.mk hsn
      have HR2 := Aside0.mk hi
      have HC2 := Aside0.mk hl
      have HFK := Aside0.mk hf
      clear hi hl g0 hf hV hsn
      have bi : (i : Int) < 9223372036854775807 := by omega
      obtain ⟨acc, hacc⟩ : ∃ acc, acc = othersG l0 (l1.take i) [] := ⟨_, rfl⟩
      rw [← hacc] at HO HSN
      have HACC := Aside0.mk hacc
      clear hacc
      by_cases hp : z = l0
      · have HD := Aside0.mk (decide_eq_true hp)
        rw [HD.out, Bool.true_or, if_pos rfl] at HSN
        clear hp
        go_wp2_with (go_at_call 72; (with_reducible refine (others1_calls _ ⟨w.heap.size, 0, none⟩ ⟨wr.heap.size, 0, none⟩ _ _ l0 A2 c2 z ?sa ?sb ?sc ?sd ?se ?sf).mono ?_); (case sa => exact cell_later HF.out (by repeat (first | exact Below.refl _ _ | apply below_alloc | apply pw_below_drewN))); (case sb => exact cell_new _ _ _); (case sc => exact Kd.C_alloc (Kd.C_below HR0.out HB.out) _); (case sd => exact HC0.out); (case se => exact Kd.C_alloc HR2.out _); (case sf => exact HC2.out); rintro e w' ⟨he, ⟨nd, rfl⟩⟩; rw [HD.out] at he; subst he)
        go_roundg (l1.length - (i + 1))
        case measure => have := HI.out; omega
        case rel => exact ⟨i + 1, by go_num, ⟨by omega, rfl⟩, ⟨by rw [HSN.out]; exact Kd.N_drewN (Kd.N_alloc HO.out _) _⟩, ⟨blk_later HF.out (by repeat (first | exact Below.refl _ _ | apply below_alloc | apply pw_below_drewN))⟩, ⟨by repeat (first | exact HB.out | apply below_alloc | apply pw_below_drewN)⟩⟩
      · have HD := Aside0.mk (decide_eq_false hp)
        rw [HD.out, Bool.false_or] at HSN
        clear hp
        obtain ⟨AO, cO, rfl⟩ := Kd.N_slice HO.out
        by_cases hq : (acc.any fun t => decide (z = t)) = true
        · rw [if_pos hq] at HSN
          have HQ := Aside0.mk hq
          clear hq
          go_wp2_with (first | (go_at_call 72; (with_reducible refine (others1_calls _ ⟨w.heap.size, 0, none⟩ ⟨wr.heap.size, 0, none⟩ _ _ l0 A2 c2 z ?sa ?sb ?sc ?sd ?se ?sf).mono ?_); (case sa => exact cell_later HF.out (by repeat (first | exact Below.refl _ _ | apply below_alloc | apply pw_below_drewN))); (case sb => exact cell_new _ _ _); (case sc => exact Kd.C_alloc (Kd.C_below HR0.out HB.out) _); (case sd => exact HC0.out); (case se => exact Kd.C_alloc HR2.out _); (case sf => exact HC2.out); rintro e w' ⟨he, ⟨nd, rfl⟩⟩; rw [HD.out] at he; subst he) | (go_at_call 60; (with_reducible refine (contains72_calls _ ⟨w.heap.size, 0, none⟩ ⟨wr.heap.size, 0, none⟩ _ _ acc A2 c2 z ?ta ?tb ?tc ?td ?te ?tf).mono ?_); (case ta => exact cell_later HF.out (by repeat (first | exact Below.refl _ _ | apply below_alloc | apply pw_below_drewN))); (case tb => exact (cell_new _ _ _)); (case tc => exact (Kd.C_drewN (Kd.C_alloc (Kd.N_reads' HO.out).2.2 _) _)); (case td => exact (Kd.N_reads' HO.out).2.1); (case te => exact Kd.C_drewN (Kd.C_alloc HR2.out _) _); (case tf => exact HC2.out); rintro e w' ⟨he, ⟨nd2, rfl⟩⟩; rw [HQ.out] at he; subst he))
          go_roundg (l1.length - (i + 1))
          case measure => have := HI.out; omega
          case rel => exact ⟨i + 1, by go_num, ⟨by omega, rfl⟩, ⟨by rw [HSN.out]; exact Kd.N_drewN (Kd.N_alloc HO.out _) _⟩, ⟨blk_later HF.out (by repeat (first | exact Below.refl _ _ | apply below_alloc | apply pw_below_drewN))⟩, ⟨by repeat (first | exact HB.out | apply below_alloc | apply pw_below_drewN)⟩⟩
        · rw [if_neg hq] at HSN
          have HQ := Aside0.mk (Bool.eq_false_iff.mpr hq)
          clear hq
          have HLEN : Aside0 (acc.length + 1 ≤ 5864062014805) := ⟨by
            have h1 := HSN.out
            have h2 := HLE.out
            have h3 := othersG_pre l0 (l1.take (i + 1)) (l1.drop (i + 1)) []
            rw [List.take_append_drop, h1, List.length_append, List.length_singleton] at h3
            omega⟩
          go_wp2_with (first | (go_at_call 72; (with_reducible refine (others1_calls _ ⟨w.heap.size, 0, none⟩ ⟨wr.heap.size, 0, none⟩ _ _ l0 A2 c2 z ?sa ?sb ?sc ?sd ?se ?sf).mono ?_); (case sa => exact cell_later HF.out (by repeat (first | exact Below.refl _ _ | apply below_alloc | apply pw_below_drewN))); (case sb => exact cell_new _ _ _); (case sc => exact Kd.C_alloc (Kd.C_below HR0.out HB.out) _); (case sd => exact HC0.out); (case se => exact Kd.C_alloc HR2.out _); (case sf => exact HC2.out); rintro e w' ⟨he, ⟨nd, rfl⟩⟩; rw [HD.out] at he; subst he) | (go_at_call 60; (with_reducible refine (contains72_calls _ ⟨w.heap.size, 0, none⟩ ⟨wr.heap.size, 0, none⟩ _ _ acc A2 c2 z ?ta ?tb ?tc ?td ?te ?tf).mono ?_); (case ta => exact cell_later HF.out (by repeat (first | exact Below.refl _ _ | apply below_alloc | apply pw_below_drewN))); (case tb => exact (cell_new _ _ _)); (case tc => exact (Kd.C_drewN (Kd.C_alloc (Kd.N_reads' HO.out).2.2 _) _)); (case td => exact (Kd.N_reads' HO.out).2.1); (case te => exact Kd.C_drewN (Kd.C_alloc HR2.out _) _); (case tf => exact HC2.out); rintro e w' ⟨he, ⟨nd2, rfl⟩⟩; rw [HQ.out] at he; subst he) | ((with_reducible refine gate_builtin (b := .append) (xs := #[.tmp 28, .tmp 30]) rfl ?_); at_builtin; refine Kd.N_append (Kd.slice 9 Kd.string) (w0 := w) w.heap.size rfl (.tmp 28) (.tmp 30) 23 22 (.slice none 0 0) 24 rfl Try.underlying23 info22 rfl (by decide) (by omega) (.slice AO acc.length cO) acc z [.slice A2 z.length c2] (fun k_ => (P1_ k_ ∨ w.heap.size ≤ k_)) (fun k_ => P1_ k_ ∧ k_ < w.heap.size) rfl ?aX ?aP ?aK ?aF ?aO ?aB ?aS ?aL ?_; (case aX => show Value.slice (some ⟨wr.heap.size + 1, 0, none⟩) 1 1 = _; simp); (case aP => exact Kd.FK_slice_mk HC2.out (Kd.F_below HFK.out (by repeat (first | exact Below.refl _ _ | apply below_alloc | apply pw_below_drewN)))); (case aK => exact fun k hk => ⟨.inl hk.1, fun he => by have := Kd.N_base HO.out k he.symm; have := hk.2; omega⟩); (case aB => exact (by repeat (first | (with_reducible first | exact HB.out | apply below_alloc | apply pw_below_drewN | apply below_drew1) | exact HB.out))); (case aF => exact (fun k_ hk => (.inr (Nat.le_trans (below_size (by repeat (first | (with_reducible first | exact HB.out | apply below_alloc | apply pw_below_drewN | apply below_drew1) | exact HB.out))) hk)))); (case aO => exact (by (with_reducible repeat (first | apply Kd.N_alloc | apply Kd.N_drewN | apply Kd.N_drew)); exact HO.out)); (case aS => exact (below_size (by repeat (first | (with_reducible first | exact HB.out | apply below_alloc | apply pw_below_drewN | apply below_drew1) | exact HB.out)))); (case aL => have := HLEN.out; omega); intro v126 w17 ho hb hg hat; have n1 := Aside0.mk ho; have n2 := Aside0.mk hb; have n3 := Aside0.mk (blk_grown (blk_later HF.out (by repeat (first | exact Below.refl _ _ | apply below_alloc | apply pw_below_drewN))) hg (Kd.N_ne HO.out HF.out (by decide))); clear ho hb hg hat))
          go_roundg (l1.length - (i + 1))
          case measure => have := HI.out; omega
          case rel => exact ⟨i + 1, by go_num, ⟨by omega, rfl⟩, ⟨by rw [HSN.out]; exact n1.out⟩, n3, n2⟩
    · have c4b0 : decide ((i : Int) < (l1.length : Int)) = false := decide_eq_false (by omega)
      have c4b1 : decide (i < l1.length) = false := decide_eq_false c4
      have HT := Aside0.mk (List.take_of_length_le (l := l1) (i := i) (by omega))
      clear c4
      go_wp2
      repeat (go_quiet (fail); try go_wp2)
      go_ret
      exact ⟨_, rfl, by have := HO.out; rw [HT.out] at this; exact this, HB.out⟩
end Go.Proofs.Ytiaoppikdgoieaa.M
namespace Go.Proofs.Ytiaoppikdgoieaa.M
open Go.RowKit Go.Proofs.YtiaoppikdgoieaaW.PrintWords Go.Proofs.YtiaoppikdgoieaaW.PrintLast Go.Proofs.YtiaoppikdgoieaaW.PrintMore Go.Proofs.Ytiaoppikdgoieaa.Hand
set_option linter.unusedVariables false

def content_Differing.f (k : Nat) (l0 : List ByteArray) (l1 : List (List ByteArray)) : Option (List (List ByteArray)) := if (othersG l0 l1 []).length ≤ 5864062014805 then some (othersG l0 l1 []) else none
theorem content_Differing.mono : ∀ a0 a1 k, LeO (content_Differing.f k a0 a1) (content_Differing.f (k + 1) a0 a1) := fun _ _ _ => LeO.refl _
set_option maxHeartbeats 1000000 in
theorem content_Differing.calls (k : Nat) (A0 : Option Addr) (c0 : Nat) (l0 : List ByteArray) (P1_ : Nat → Prop) (A1 : Option Addr) (c1 : Nat) (l1 : List (List ByteArray)) (r : List (List ByteArray)) (w : World) (hr0 : Kd.C Kd.string w A0 l0.length l0) (hc0 : l0.length ≤ c0) (hs1 : Kd.V (Kd.slice 9 Kd.string) 22 w w.heap.size (fun k_ => P1_ k_) (.slice A1 l1.length c1) l1) (h : content_Differing.f k l0 l1 = some r) :
    Calls Try.prog 29 #[.slice A0 l0.length c0, .slice A1 l1.length c1] w fun e w' => ∃ v0_ : Value, e = .returned (v0_) ∧ Kd.N (Kd.slice 9 Kd.string) 22 w' w.heap.size (fun k_ => (P1_ k_ ∨ w.heap.size ≤ k_)) v0_ r ∧ Below w.heap.size w w' := by
  unfold content_Differing.f at h
  by_cases hb : (othersG l0 l1 []).length ≤ 5864062014805
  · rw [if_pos hb] at h
    obtain rfl := Option.some.inj h
    have HC := Aside0.mk (others_calls A0 c0 l0 P1_ A1 c1 l1 w hr0 hc0 hs1 hb)
    clear hr0 hc0 hs1 hb h
    go_enter Try.func29, Try.ntmps29
    go_wp2_with (go_at_call 51; (with_reducible refine HC.out.mono ?_); rintro e w' ⟨v0, rfl, hN, hB⟩; have HN := Aside0.mk hN; have HB := Aside0.mk hB; clear hN hB)
    go_ret
    exact ⟨_, rfl, HN.out, HB.out⟩
  · rw [if_neg hb] at h
    exact absurd h (by simp)
end Go.Proofs.Ytiaoppikdgoieaa.M
namespace Go.Proofs.Ytiaoppikdgoieaa.Pure
open Go.RowKit Go.Proofs.Ytiaoppikdgoieaa.M Go.Proofs.Ytiaoppikdgoieaa.Hand Go.Proofs.YtiaoppikdgoieaaW.PrintWords Go.Proofs.YtiaoppikdgoieaaW.PrintLast Go.Proofs.YtiaoppikdgoieaaW.PrintMore
set_option linter.unusedVariables false

/-- The reference's inner loop: is the part the base's, or one ahead? -/
theorem diff_l1 (l0 : List ByteArray) (l1 acc : List (List ByteArray)) (M : Nat) (hM : ∀ x ∈ l1, x.length < M) (hM2 : M ≤ 1000) (hn : l1.length ≤ 1000) (ha : acc.length ≤ 1000) (i : Nat) (hi : i < l1.length) (d : Nat) :
    ∀ (j k : Nat) (b : Bool), j + d = i → M ≤ k → sennitref06_Differing.l1 (k + d + 1) l0 l1 acc (i : Int) b (j : Int) =
      sennitref06_Differing.l0 k l0 l1 (if (b || ((l1.take i).drop j).any fun z => decide (l1[i] = z)) = true then acc else acc ++ [l1[i]]) ((i + 1 : Nat) : Int) := by
  induction d with
  | zero =>
    intro j k b hj hk
    obtain rfl : j = i := by omega
    rw [sennitref06_Differing.l1, if_neg (by omega), wrap_succ hi (by omega), List.drop_of_length_le (by simp; omega)]
    cases b with
    | true => rw [if_pos rfl]; rfl
    | false => rw [if_neg (by decide), if_pos (by omega), if_pos (by omega), if_pos (by omega), rdL1 _ _ hi]; rfl
  | succ d ih =>
    intro j k b hj hk
    have hj2 : j < l1.length := by omega
    have hd : (l1.take i).drop j = l1[j] :: (l1.take i).drop (j + 1) := by
      rw [List.drop_eq_getElem_cons (by simp; omega)]; simp
    rw [show k + (d + 1) + 1 = (k + d + 1) + 1 by omega, sennitref06_Differing.l1, if_pos (by omega), wrap_succ hj2 (by omega), hd, List.any_cons]
    have hl := hM _ (List.getElem_mem hi)
    cases b with
    | true => rw [if_pos rfl, ih (j + 1) k true (by omega) hk]; simp
    | false =>
      rw [if_neg (by decide), if_pos (by omega), if_pos (by omega), if_pos (by omega), if_pos (by omega), rdL1 _ _ hi, rdL1 _ _ hj2, same_f _ _ (by omega) _ (by omega), Option.bind_some, ih (j + 1) k _ (by omega) hk, Bool.false_or]
theorem diff_l0 (l0 : List ByteArray) (l1 : List (List ByteArray)) (M : Nat) (hM : ∀ x ∈ l1, x.length < M) (hM2 : M ≤ 1000) (hn : l1.length ≤ 1000) (d : Nat) :
    ∀ (i k : Nat) (acc : List (List ByteArray)), i + d = l1.length → acc.length ≤ i → M + d * (l1.length + 3) + 1 ≤ k → (∀ z ∈ acc, z ∈ l1.take i) → (∀ z ∈ l1.take i, z = l0 ∨ z ∈ acc) →
      sennitref06_Differing.l0 k l0 l1 acc (i : Int) = some (othersG l0 (l1.drop i) acc) := by
  induction d with
  | zero =>
    intro i k acc hi ha hk h1 h2
    obtain ⟨k, rfl⟩ : ∃ m, k = m + 1 := ⟨k - 1, by omega⟩
    rw [sennitref06_Differing.l0, if_neg (by omega), List.drop_of_length_le (by omega)]
    rfl
  | succ d ih =>
    intro i k acc hi ha hk h1 h2
    have hlt : i < l1.length := by omega
    have hl := hM _ (List.getElem_mem hlt)
    have hk2 : M + d * (l1.length + 3) + 1 + (l1.length + 3) ≤ k := by rw [Nat.succ_mul] at hk; omega
    obtain ⟨q, rfl⟩ : ∃ q, k = (q + i + 1) + 1 := ⟨k - i - 2, by omega⟩
    rw [sennitref06_Differing.l0, if_pos (by omega), if_pos (by omega), rdL1 _ _ hlt, same_f _ _ (by omega) _ (by omega), Option.bind_some]
    have := diff_l1 l0 l1 acc M hM hM2 hn (by omega) i hlt i 0 q (decide (l1[i] = l0)) (by omega) (by omega)
    rw [show ((0 : Nat) : Int) = 0 from rfl] at this
    rw [this, List.drop_zero]
    have hcond : (decide (l1[i] = l0) || (l1.take i).any fun z => decide (l1[i] = z)) = (decide (l1[i] = l0) || acc.any fun z => decide (l1[i] = z)) := by
      rw [Bool.eq_iff_iff]
      simp only [Bool.or_eq_true, decide_eq_true_eq, List.any_eq_true]
      constructor
      · rintro (h | ⟨z, hz, h⟩)
        · exact .inl h
        · rcases h2 z hz with h3 | h3
          · exact .inl (h.trans h3)
          · exact .inr ⟨z, h3, h⟩
      · rintro (h | ⟨z, hz, h⟩)
        · exact .inl h
        · exact .inr ⟨z, h1 z hz, h⟩
    rw [hcond, List.drop_eq_getElem_cons hlt]
    have ht := take_snoc l1 i l1[i] (List.getElem?_eq_getElem hlt)
    by_cases hc : (decide (l1[i] = l0) || acc.any fun z => decide (l1[i] = z)) = true
    · rw [if_pos hc, ih (i + 1) q acc (by omega) (by omega) (by omega)]
      · simp only [othersG, if_pos hc]
      · intro z hz; rw [ht]; exact List.mem_append_left _ (h1 z hz)
      · intro z hz
        rw [ht] at hz
        rcases List.mem_append.1 hz with h | h
        · exact h2 z h
        · rw [List.mem_singleton.1 h]
          simp only [Bool.or_eq_true, decide_eq_true_eq, List.any_eq_true] at hc
          rcases hc with h3 | ⟨y, hy, h3⟩
          · exact .inl h3
          · exact .inr (by rw [h3]; exact hy)
    · rw [if_neg hc, ih (i + 1) q _ (by omega) (by simp; omega) (by omega)]
      · simp only [othersG, if_neg hc]
      · intro z hz
        rw [ht]
        rcases List.mem_append.1 hz with h | h
        · exact List.mem_append_left _ (h1 z h)
        · exact List.mem_append_right _ h
      · intro z hz
        rw [ht] at hz
        rcases List.mem_append.1 hz with h | h
        · rcases h2 z h with h3 | h3
          · exact .inl h3
          · exact .inr (List.mem_append_left _ h3)
        · exact .inr (List.mem_append_right _ h)
theorem diff_f (l0 : List ByteArray) (l1 : List (List ByteArray)) (hM : ∀ x ∈ l1, x.length < 21) (hn : l1.length ≤ 8) (k : Nat) (hk : 200 ≤ k) : sennitref06_Differing.f k l0 l1 = some (othersG l0 l1 []) := by
  unfold sennitref06_Differing.f
  have := diff_l0 l0 l1 21 hM (by omega) (by omega) l1.length 0 k [] (by omega) (by simp) (by
    have : l1.length * (l1.length + 3) ≤ 8 * 11 := Nat.mul_le_mul hn (by omega)
    omega) (by simp) (by simp)
  simpa using this
theorem Differing_f (l0 : List ByteArray) (l1 : List (List ByteArray)) (hn : l1.length ≤ 1000) (k : Nat) : content_Differing.f k l0 l1 = some (othersG l0 l1 []) := by
  unfold content_Differing.f
  have := othersG_len l0 l1 []
  rw [if_pos (by simp at this; omega)]

/-! What othersG is. -/
theorem othersG_mem (x : List ByteArray) (l acc : List (List ByteArray)) : ∀ z ∈ othersG x l acc, z ∈ acc ∨ (z ∈ l ∧ z ≠ x) := by
  induction l generalizing acc with
  | nil => intro z hz; exact .inl hz
  | cons y l ih =>
    intro z hz
    simp only [othersG] at hz
    rcases ih _ z hz with h | h
    · split at h
      · exact .inl h
      · rename_i hc
        rcases List.mem_append.1 h with h | h
        · exact .inl h
        · rw [List.mem_singleton.1 h]
          simp only [Bool.or_eq_true, decide_eq_true_eq, not_or] at hc
          exact .inr ⟨List.mem_cons_self, hc.1⟩
    · exact .inr ⟨List.mem_cons_of_mem _ h.1, h.2⟩
theorem othersG_acc (x : List ByteArray) (l acc : List (List ByteArray)) : ∀ z ∈ acc, z ∈ othersG x l acc := by
  induction l generalizing acc with
  | nil => intro z hz; exact hz
  | cons y l ih =>
    intro z hz
    simp only [othersG]
    refine ih _ z ?_
    split
    · exact hz
    · exact List.mem_append_left _ hz
theorem othersG_all (x : List ByteArray) (l acc : List (List ByteArray)) : ∀ z ∈ l, z = x ∨ z ∈ othersG x l acc := by
  induction l generalizing acc with
  | nil => intro z hz; cases hz
  | cons y l ih =>
    intro z hz
    simp only [othersG]
    rcases List.mem_cons.1 hz with rfl | h
    · by_cases hc : (decide (z = x) || acc.any fun t => decide (z = t)) = true
      · rw [if_pos hc]
        simp only [Bool.or_eq_true, decide_eq_true_eq, List.any_eq_true] at hc
        rcases hc with h | ⟨t, ht, h⟩
        · exact .inl h
        · exact .inr (othersG_acc x l acc z (by rw [h]; exact ht))
      · rw [if_neg hc]
        exact .inr (othersG_acc x l _ z (List.mem_append_right _ (List.mem_singleton.2 rfl)))
    · exact ih _ z h
theorem othersG_nodup (x : List ByteArray) (l acc : List (List ByteArray)) (h : acc.Nodup) : (othersG x l acc).Nodup := by
  induction l generalizing acc with
  | nil => exact h
  | cons y l ih =>
    simp only [othersG]
    refine ih _ ?_
    split
    · exact h
    · rename_i hc
      simp only [Bool.or_eq_true, decide_eq_true_eq, List.any_eq_true, not_or, not_exists, not_and] at hc
      rw [List.nodup_append]
      refine ⟨h, by simp, fun a ha b hb => ?_⟩
      rw [List.mem_singleton.1 hb]
      exact fun e => hc.2 a ha e.symm
end Go.Proofs.Ytiaoppikdgoieaa.Pure
