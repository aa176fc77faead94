/- Texts of the claim PickUnion, put together (part 4): By a program of this session: a Go function as a Lean function, and that the machine's call does what it says. By a program of this session: a Go function as a Lean function, and that the machine's call does what it says. By a program of this session: a Go function as a Lean function, and that the machine's call does what it says. By a program of this session: a Go function as a Lean function, and that the machine's call does what it says. -/
import Derived.ArgAppend
import Derived.Below
import Derived.BigQuiet
import Derived.Deep.AppendLies
import Derived.Deep.CutBlock
import Derived.Deep.DeepCutAuto
import Derived.Deep.Draws
import Derived.Deep.LoopGhost
import Derived.Deep.OwnRows
import Derived.Deep.QuietTactic
import Derived.Deep.RegionHeld3
import Derived.KernelRfl
import Derived.Laws.BitsLemmas
import Derived.Laws.BytesArg
import Derived.Laws.IdiomCopy
import Derived.Laws.MakeOwn
import Derived.Laws.OwnMore
import Derived.Laws.Rows
import Derived.Laws.Slices
import Derived.Lib.AppendStr
import Derived.Lib.ConvBytes
import Derived.Maps.AppendAt
import Derived.OrdersHeld
import Derived.OwnWalk
import Derived.RowKit
import Derived.RowKit3
import Derived.Tactics
import Derived.Test.YtiaoppikdgoieaaProg
import Derived.Test.YtiaoppikdgoieaaWApart
import Derived.Test.YtiaoppikdgoieaaWArr
import Derived.Test.YtiaoppikdgoieaaWAt
import Derived.Test.YtiaoppikdgoieaaWEqStruct
import Derived.Test.YtiaoppikdgoieaaWFoot
import Derived.Test.YtiaoppikdgoieaaWFootNe
import Derived.Test.YtiaoppikdgoieaaWFour
import Derived.Test.YtiaoppikdgoieaaWGuard
import Derived.Test.YtiaoppikdgoieaaWInv
import Derived.Test.YtiaoppikdgoieaaWInvWords
import Derived.Test.YtiaoppikdgoieaaWKept
import Derived.Test.YtiaoppikdgoieaaWLast
import Derived.Test.YtiaoppikdgoieaaWMore
import Derived.Test.YtiaoppikdgoieaaWN
import Derived.Test.YtiaoppikdgoieaaWNEv
import Derived.Test.YtiaoppikdgoieaaWQPut
import Derived.Test.YtiaoppikdgoieaaWRepsOne
import Derived.Test.YtiaoppikdgoieaaWShare
import Derived.Test.YtiaoppikdgoieaaWTab
import Derived.Test.YtiaoppikdgoieaaWWords
import Derived.Test.YtiaoppikdgoieaaWZeros
import Derived.WalkKit
import Derived.WideLaws
import Derived.Test.YtiaoppikdgoieaaPickUnionQ3
namespace Go.Proofs.Ytiaoppikdgoieaa.M
open Go.RowKit Go.Proofs.YtiaoppikdgoieaaW.PrintWords Go.Proofs.YtiaoppikdgoieaaW.PrintLast Go.Proofs.YtiaoppikdgoieaaW.PrintMore
attribute [local go_sem] max2_int min2_int max_two min_two max_three min_three max_four min_four
set_option linter.unusedVariables false
set_option linter.unusedSimpArgs false

/-! ### sennitref07_Normal: function 42 -/
mutual
def sennitref07_Normal.l0 : Nat → List (S27) → List (S27) → Int → Option ((List (S27)))
  | 0, _, _, _ => none
  | k + 1, x0, x3, x4 => if x4 < (x0.length : Int) then (if 0 ≤ x4 then (if (rd_T27 x0 x4).f0 = true then (if x3.length < 1759218604441 then (sennitref07_Normal.l0 k x0 (x3 ++ [(⟨true, ([] : List ByteArray), (rd_T27 x0 x4).f2, (rd_T27 x0 x4).f3⟩ : S27)]) (wrap64 (x4 + 1))) else (none)) else (sennitref07_Normal.l1 k x0 x3 x4 ([] : List ByteArray))) else (none)) else (some x3)
def sennitref07_Normal.l1 : Nat → List (S27) → List (S27) → Int → List ByteArray → Option ((List (S27)))
  | 0, _, _, _, _ => none
  | k + 1, x0, x3, x4, x5 => if x4 < (x0.length : Int) then (if 0 ≤ x4 then (if ((rd_T27 x0 x4).f0 = true) then (if (x5.length : Int) > 0 then (if x3.length < 1759218604441 then (sennitref07_Normal.l0 k x0 (x3 ++ [(⟨false, x5, ([] : List ByteArray), ([] : List (List ByteArray))⟩ : S27)]) x4) else (none)) else (sennitref07_Normal.l0 k x0 x3 x4)) else (if x5.length + ((rd_T27 x0 x4).f1).length < 8796093022208 then (sennitref07_Normal.l1 k x0 x3 (wrap64 (x4 + 1)) (x5 ++ ((rd_T27 x0 x4).f1))) else (none))) else (none)) else (if (x5.length : Int) > 0 then (if x3.length < 1759218604441 then (sennitref07_Normal.l0 k x0 (x3 ++ [(⟨false, x5, ([] : List ByteArray), ([] : List (List ByteArray))⟩ : S27)]) x4) else (none)) else (sennitref07_Normal.l0 k x0 x3 x4))
end
def sennitref07_Normal.f (k : Nat) (l0 : List (S27)) : Option ((List (S27))) := sennitref07_Normal.l0 k l0 ([] : List (S27)) 0
theorem sennitref07_Normal.mono_l : ∀ k, (∀ y0 y1 y2, LeO (sennitref07_Normal.l0 k y0 y1 y2) (sennitref07_Normal.l0 (k + 1) y0 y1 y2)) ∧ (∀ y0 y1 y2 y3, LeO (sennitref07_Normal.l1 k y0 y1 y2 y3) (sennitref07_Normal.l1 (k + 1) y0 y1 y2 y3))
  | 0 => ⟨fun _ _ _ r h => by simp [sennitref07_Normal.l0] at h, fun _ _ _ _ r h => by simp [sennitref07_Normal.l1] at h⟩
  | k + 1 => by
    obtain ⟨ih0, ih1⟩ := sennitref07_Normal.mono_l k
    refine ⟨?_, ?_⟩
    · intro y0 y1 y2
      unfold sennitref07_Normal.l0
      repeat' first
      | (with_reducible exact ih0 _ _ _)
      | (with_reducible exact ih1 _ _ _ _)
      | (with_reducible exact LeO.refl _)
      | (with_reducible exact LeO.none _)
      | (with_reducible refine LeO.ite ?_ ?_)
      | (with_reducible refine LeO.bind ?_ (fun _ => ?_))
      | exact ih0 _ _ _
      | exact ih1 _ _ _ _
      | exact LeO.none _
      | refine LeO.ite ?_ ?_
      | refine LeO.bind ?_ (fun _ => ?_)
    · intro y0 y1 y2 y3
      unfold sennitref07_Normal.l1
      repeat' first
      | (with_reducible exact ih0 _ _ _)
      | (with_reducible exact ih1 _ _ _ _)
      | (with_reducible exact LeO.refl _)
      | (with_reducible exact LeO.none _)
      | (with_reducible refine LeO.ite ?_ ?_)
      | (with_reducible refine LeO.bind ?_ (fun _ => ?_))
      | exact ih0 _ _ _
      | exact ih1 _ _ _ _
      | exact LeO.none _
      | refine LeO.ite ?_ ?_
      | refine LeO.bind ?_ (fun _ => ?_)
theorem sennitref07_Normal.mono : ∀ a0 k, LeO (sennitref07_Normal.f k a0) (sennitref07_Normal.f (k + 1) a0) := by
  intro a0 k
  obtain ⟨ih0, ih1⟩ := sennitref07_Normal.mono_l k
  unfold sennitref07_Normal.f
  repeat' first
      | (with_reducible exact ih0 _ _ _)
      | (with_reducible exact ih1 _ _ _ _)
      | (with_reducible exact LeO.refl _)
      | (with_reducible exact LeO.none _)
      | (with_reducible refine LeO.ite ?_ ?_)
      | (with_reducible refine LeO.bind ?_ (fun _ => ?_))
      | exact ih0 _ _ _
      | exact ih1 _ _ _ _
      | exact LeO.none _
      | refine LeO.ite ?_ ?_
      | refine LeO.bind ?_ (fun _ => ?_)
def sennitref07_Normal.T5 : Bool × List (List Nat × List Nat) := (true, [([], []), ([], []), ([], []), ([1, 2], [1, 2]), ([3], [3]), ([4], [4]), ([], []), ([], []), ([6, 7], [6, 7]), ([8], [8]), ([9], [9]), ([5, 10], [5, 10]), ([11], [11]), ([0, 12], [0, 12]), ([13, 13, 0, 1, 2, 3, 4, 5, 6, 7, 8, 9, 10, 11, 12, 13], [0, 13])])
def sennitref07_Normal.B5 : List Nat := [0, 0, 0, 6, 14, 30, 0, 0, 192, 448, 960, 2046, 4094, 8191, 16383]
theorem sennitref07_Normal.tab5 : rtab .any (opsOf Try.f42 5) = sennitref07_Normal.T5 := by kernel_rfl
theorem sennitref07_Normal.bits5 : waitsOk sennitref07_Normal.T5.2 sennitref07_Normal.B5 = true := by kernel_rfl
set_option maxHeartbeats 8000000 in
set_option maxRecDepth 100000 in
theorem sennitref07_Normal.calls (k : Nat) (P0_ : Nat → Prop) (A0 : Option Addr) (c0 : Nat) (l0 : List (S27)) (r : List (S27)) (w : World) (hs0 : Kd.V k27 27 w w.heap.size (fun k_ => P0_ k_) (.slice A0 l0.length c0) l0) (h : sennitref07_Normal.f k l0 = some r) :
    Calls Try.prog 42 #[.slice A0 l0.length c0] w fun e w' => ∃ v0_ : Value, e = .returned (v0_) ∧ Kd.N k27 27 w' w.heap.size (fun k_ => (P0_ k_ ∨ w.heap.size ≤ k_)) v0_ r ∧ Below w.heap.size w w' := by
  have hu27 := Try.underlying27
  have HO0 := Aside0.mk (show Kd.V k27 27 w w.heap.size (fun k_ => (P0_ k_ ∨ w.heap.size ≤ k_)) (.slice A0 l0.length c0) l0 from Kd.V_mono hs0 (fun k_ hk => .inl hk))
  have HB := Aside0.mk (Below.refl w.heap.size w)
  have H : (sennitref07_Normal.l0 k l0 ([] : List (S27)) 0) = some r := h
  clear h
  have H' := Aside0.mk H
  clear H
  go_enter Try.func42, Try.ntmps42
  go_wp2
  go_loopg [3, 4] k (fun kq v3 v4 w' => ∃ (x3_1 : List (S27)) (x4_1 : Int), v4 = .int .i64 x4_1 ∧ Aside0 (sennitref07_Normal.l0 kq l0 x3_1 x4_1 = some r) ∧ Aside0 (kq ≤ k) ∧ Aside0 (Kd.V k27 27 w' w.heap.size (fun k_ => (P0_ k_ ∨ w.heap.size ≤ k_) ∧ some k_ ≠ (v3 : Value).ownBlock) (.slice A0 l0.length c0) l0) ∧ Aside0 (Kd.N k27 27 w' w.heap.size (fun k_ => (P0_ k_ ∨ w.heap.size ≤ k_)) v3 x3_1) ∧ Aside0 (Below w.heap.size w w'))
  case atStart => exact ⟨(([] : List (S27))), (0), (by first | rfl | (simp; done) | (simp [*]; done)), H', ⟨Nat.le_refl _⟩, ⟨by (with_reducible repeat (first | apply Kd.V_alloc | apply Kd.V_drewN | apply Kd.V_drew)); exact Kd.V_mono HO0.out (fun _ hk => ⟨hk, (by simp [Value.ownBlock])⟩)⟩, ⟨by first | exact Kd.R_nil _ _ _ _ _ | exact Kd.N_nil _ _ _ _ _ | exact Kd.V_nil _ _ _ _ _ | exact Kd.Q_nil _ _ _ _ _ | exact Kd.S_nil _ _ _ _ _⟩, ⟨by repeat (first | (with_reducible first | exact HB.out | apply below_alloc | apply pw_below_drewN | apply below_drew1) | exact HB.out)⟩⟩
  case round =>
    clear H'
    obtain ⟨x3_1, x4_1, rfl, HA, HK1, HO_0, HO_3, HB⟩ := hrel
    cases gk with
    | zero => exact absurd HA.out (by simp [sennitref07_Normal.l0])
    | succ k1 =>
      have H := HA.out
      clear HA
      simp only [sennitref07_Normal.l0] at H
      by_cases c2 : x4_1 < (l0.length : Int)
      · rw [if_pos c2] at H
        have c2b0 : decide (x4_1 < (l0.length : Int)) = true := decide_eq_true c2
        clear c2
        by_cases c3 : 0 ≤ x4_1
        · rw [if_pos c3] at H
          have c3b0 : decide (0 ≤ x4_1) = true := decide_eq_true c3
          clear c3
          obtain ⟨bq4, hbq4⟩ : ∃ b_ : Bool, b_ = ((rd_T27 l0 x4_1).f0) := ⟨_, rfl⟩
          replace H : (if bq4 = true then (if x3_1.length < 1759218604441 then (sennitref07_Normal.l0 k1 l0 (x3_1 ++ [(⟨true, ([] : List ByteArray), (rd_T27 l0 x4_1).f2, (rd_T27 l0 x4_1).f3⟩ : S27)]) (wrap64 (x4_1 + 1))) else (none)) else (sennitref07_Normal.l1 k1 l0 x3_1 x4_1 ([] : List ByteArray))) = some r := by rw [← hbq4] at H; exact H
          have Nbq4 := Aside0.mk hbq4
          clear hbq4
          by_cases c5 : bq4 = true
          · subst c5
            have H1 : (if x3_1.length < 1759218604441 then (sennitref07_Normal.l0 k1 l0 (x3_1 ++ [(⟨true, ([] : List ByteArray), (rd_T27 l0 x4_1).f2, (rd_T27 l0 x4_1).f3⟩ : S27)]) (wrap64 (x4_1 + 1))) else (none)) = some r := by rw [if_pos rfl] at H; exact H
            clear H
            have H := H1
            clear H1
            by_cases c6 : x3_1.length < 1759218604441
            · rw [if_pos c6] at H
              have LMc6 := Aside0.mk c6
              clear c6
              obtain ⟨y455, hy455⟩ : ∃ y_ : List (S27), y_ = (x3_1 ++ [(⟨true, ([] : List ByteArray), (rd_T27 l0 x4_1).f2, (rd_T27 l0 x4_1).f3⟩ : S27)]) := ⟨_, rfl⟩
              replace H : (sennitref07_Normal.l0 k1 l0 y455 (wrap64 (x4_1 + 1))) = some r := by first | (rw [hy455]; with_reducible exact H) | (have H2_ := (Option.bind_some _ _).symm.trans H; rw [hy455]; with_reducible exact H2_) | (have H2_ := (Option.bind_some _ _).symm.trans H; with_reducible exact H2_) | with_reducible exact H | (rw [hy455]; exact H) | exact H
              have Ny455 := Aside0.mk hy455
              clear hy455
              have H' := Aside0.mk H
              clear H
              have p452 : 0 ≤ (x4_1 : Int) := of_decide_eq_true (by first | (with_reducible assumption) | assumption)
              have q452 : x4_1 < (l0.length : Int) := of_decide_eq_true (by first | (with_reducible assumption) | assumption)
              obtain ⟨ad452, A452_1, c452_1, A452_2, c452_2, A452_3, c452_3, e452, hx452_0, hx452_1, hx452_2, hx452_3, hl452_1, hi452_1, hl452_2, hi452_2, hl452_3, hi452_3⟩ := at_T27 (Kd.V_reads' HO_0.out).2.2 x4_1 p452 q452
              (try rw [← Nbq4.out] at hx452_0)
              cases e452
              obtain ⟨ce452, hce452, hMe452, hcc452⟩ := Kd.V_get HO_0.out z27 x4_1 p452 (by first | exact q452 | exact of_decide_eq_true (by first | (with_reducible assumption) | assumption) | (have e_ := (Kd.V_reads' HO_0.out).1; omega))
              obtain ⟨ua452_1, uc452_1, ua452_2, uc452_2, ua452_3, uc452_3, rfl, ul452_1, ge452_1, ul452_2, ge452_2, ul452_3, ge452_3⟩ := k27_openF hMe452
              have hv452_1 := hcc452 1 _ rfl
              rw [add_field _ _ 1 (by omega)] at hv452_1
              replace hv452_1 := Option.some.inj (hv452_1.symm.trans hx452_1)
              injection hv452_1 with hva_ hvn_ hvc_
              rw [hva_] at ge452_1
              rw [hvc_] at ul452_1
              have HL452_1 := Aside0.mk (show Kd.V Kd.string 9 _ w.heap.size _ _ ((rd_T27 l0 x4_1).f1) from Kd.V_mk ul452_1 ge452_1)
              clear hva_ hvn_ hvc_ ge452_1 ul452_1
              have hv452_2 := hcc452 2 _ rfl
              rw [add_field _ _ 2 (by omega)] at hv452_2
              replace hv452_2 := Option.some.inj (hv452_2.symm.trans hx452_2)
              injection hv452_2 with hva_ hvn_ hvc_
              rw [hva_] at ge452_2
              rw [hvc_] at ul452_2
              have HL452_2 := Aside0.mk (show Kd.V Kd.string 9 _ w.heap.size _ _ ((rd_T27 l0 x4_1).f2) from Kd.V_mk ul452_2 ge452_2)
              clear hva_ hvn_ hvc_ ge452_2 ul452_2
              have hv452_3 := hcc452 3 _ rfl
              rw [add_field _ _ 3 (by omega)] at hv452_3
              replace hv452_3 := Option.some.inj (hv452_3.symm.trans hx452_3)
              injection hv452_3 with hva_ hvn_ hvc_
              rw [hva_] at ge452_3
              rw [hvc_] at ul452_3
              have HL452_3 := Aside0.mk (show Kd.V (Kd.slice 9 Kd.string) 22 _ w.heap.size _ _ ((rd_T27 l0 x4_1).f3) from Kd.V_mk ul452_3 ge452_3)
              clear hva_ hvn_ hvc_ ge452_3 ul452_3
              clear hcc452 hce452
              have HR452_1 := Aside0.mk hi452_1
              have HC452_1 := Aside0.mk hl452_1
              clear hi452_1 hl452_1
              have HR452_2 := Aside0.mk hi452_2
              have HC452_2 := Aside0.mk hl452_2
              clear hi452_2 hl452_2
              have HR452_3 := Aside0.mk hi452_3
              have HC452_3 := Aside0.mk hl452_3
              clear hi452_3 hl452_3
              replace p452 := eq_true p452
              replace q452 := eq_true q452
              try go_wp2
              have n0_ := Aside0.mk (Kd.V_drew HO_0.out)
              have n1_ := Aside0.mk (Kd.N_drew HO_3.out)
              have n2_ := Aside0.mk (Kd.V_drew HL452_1.out)
              have n3_ := Aside0.mk (Kd.V_drew HL452_2.out)
              have n4_ := Aside0.mk (Kd.V_drew HL452_3.out)
              have n5_ := Aside0.mk (Kd.C_drew HR452_1.out)
              have n6_ := Aside0.mk (Kd.C_drew HR452_2.out)
              have n7_ := Aside0.mk (Kd.C_drew HR452_3.out)
              have n8_ := Aside0.mk (below_drew1 HB.out)
              clear HO_0
              clear HO_3
              clear HL452_1
              clear HL452_2
              clear HL452_3
              clear HR452_1
              clear HR452_2
              clear HR452_3
              clear HB
              have HO_0 := n0_
              have HO_3 := n1_
              have HL452_1 := n2_
              have HL452_2 := n3_
              have HL452_3 := n4_
              have HR452_1 := n5_
              have HR452_2 := n6_
              have HR452_3 := n7_
              have HB := n8_
              clear n0_ n1_ n2_ n3_ n4_ n5_ n6_ n7_ n8_
              have p453 : 0 ≤ (x4_1 : Int) := of_decide_eq_true (by first | (with_reducible assumption) | assumption)
              have q453 : x4_1 < (l0.length : Int) := of_decide_eq_true (by first | (with_reducible assumption) | assumption)
              obtain ⟨ad453, A453_1, c453_1, A453_2, c453_2, A453_3, c453_3, e453, hx453_0, hx453_1, hx453_2, hx453_3, hl453_1, hi453_1, hl453_2, hi453_2, hl453_3, hi453_3⟩ := at_T27 (Kd.V_reads' HO_0.out).2.2 x4_1 p453 q453
              (try rw [← Nbq4.out] at hx453_0)
              obtain rfl : ad452 = ad453 := (by injection e453)
              obtain ⟨ce453, hce453, hMe453, hcc453⟩ := Kd.V_get HO_0.out z27 x4_1 p453 (by first | exact q453 | exact of_decide_eq_true (by first | (with_reducible assumption) | assumption) | (have e_ := (Kd.V_reads' HO_0.out).1; omega))
              obtain ⟨ua453_1, uc453_1, ua453_2, uc453_2, ua453_3, uc453_3, rfl, ul453_1, ge453_1, ul453_2, ge453_2, ul453_3, ge453_3⟩ := k27_openF hMe453
              have hv453_1 := hcc453 1 _ rfl
              rw [add_field _ _ 1 (by omega)] at hv453_1
              replace hv453_1 := Option.some.inj (hv453_1.symm.trans hx453_1)
              injection hv453_1 with hva_ hvn_ hvc_
              rw [hva_] at ge453_1
              rw [hvc_] at ul453_1
              have HL453_1 := Aside0.mk (show Kd.V Kd.string 9 _ w.heap.size _ _ ((rd_T27 l0 x4_1).f1) from Kd.V_mk ul453_1 ge453_1)
              clear hva_ hvn_ hvc_ ge453_1 ul453_1
              have hv453_2 := hcc453 2 _ rfl
              rw [add_field _ _ 2 (by omega)] at hv453_2
              replace hv453_2 := Option.some.inj (hv453_2.symm.trans hx453_2)
              injection hv453_2 with hva_ hvn_ hvc_
              rw [hva_] at ge453_2
              rw [hvc_] at ul453_2
              have HL453_2 := Aside0.mk (show Kd.V Kd.string 9 _ w.heap.size _ _ ((rd_T27 l0 x4_1).f2) from Kd.V_mk ul453_2 ge453_2)
              clear hva_ hvn_ hvc_ ge453_2 ul453_2
              have hv453_3 := hcc453 3 _ rfl
              rw [add_field _ _ 3 (by omega)] at hv453_3
              replace hv453_3 := Option.some.inj (hv453_3.symm.trans hx453_3)
              injection hv453_3 with hva_ hvn_ hvc_
              rw [hva_] at ge453_3
              rw [hvc_] at ul453_3
              have HL453_3 := Aside0.mk (show Kd.V (Kd.slice 9 Kd.string) 22 _ w.heap.size _ _ ((rd_T27 l0 x4_1).f3) from Kd.V_mk ul453_3 ge453_3)
              clear hva_ hvn_ hvc_ ge453_3 ul453_3
              clear hcc453 hce453
              have HR453_1 := Aside0.mk hi453_1
              have HC453_1 := Aside0.mk hl453_1
              clear hi453_1 hl453_1
              have HR453_2 := Aside0.mk hi453_2
              have HC453_2 := Aside0.mk hl453_2
              clear hi453_2 hl453_2
              have HR453_3 := Aside0.mk hi453_3
              have HC453_3 := Aside0.mk hl453_3
              clear hi453_3 hl453_3
              replace p453 := eq_true p453
              replace q453 := eq_true q453
              have p454 : 0 ≤ (x4_1 : Int) := of_decide_eq_true (by first | (with_reducible assumption) | assumption)
              have q454 : x4_1 < (l0.length : Int) := of_decide_eq_true (by first | (with_reducible assumption) | assumption)
              obtain ⟨ad454, A454_1, c454_1, A454_2, c454_2, A454_3, c454_3, e454, hx454_0, hx454_1, hx454_2, hx454_3, hl454_1, hi454_1, hl454_2, hi454_2, hl454_3, hi454_3⟩ := at_T27 (Kd.V_reads' HO_0.out).2.2 x4_1 p454 q454
              (try rw [← Nbq4.out] at hx454_0)
              obtain rfl : ad452 = ad454 := (by injection e454)
              obtain ⟨ce454, hce454, hMe454, hcc454⟩ := Kd.V_get HO_0.out z27 x4_1 p454 (by first | exact q454 | exact of_decide_eq_true (by first | (with_reducible assumption) | assumption) | (have e_ := (Kd.V_reads' HO_0.out).1; omega))
              obtain ⟨ua454_1, uc454_1, ua454_2, uc454_2, ua454_3, uc454_3, rfl, ul454_1, ge454_1, ul454_2, ge454_2, ul454_3, ge454_3⟩ := k27_openF hMe454
              have hv454_1 := hcc454 1 _ rfl
              rw [add_field _ _ 1 (by omega)] at hv454_1
              replace hv454_1 := Option.some.inj (hv454_1.symm.trans hx454_1)
              injection hv454_1 with hva_ hvn_ hvc_
              rw [hva_] at ge454_1
              rw [hvc_] at ul454_1
              have HL454_1 := Aside0.mk (show Kd.V Kd.string 9 _ w.heap.size _ _ ((rd_T27 l0 x4_1).f1) from Kd.V_mk ul454_1 ge454_1)
              clear hva_ hvn_ hvc_ ge454_1 ul454_1
              have hv454_2 := hcc454 2 _ rfl
              rw [add_field _ _ 2 (by omega)] at hv454_2
              replace hv454_2 := Option.some.inj (hv454_2.symm.trans hx454_2)
              injection hv454_2 with hva_ hvn_ hvc_
              rw [hva_] at ge454_2
              rw [hvc_] at ul454_2
              have HL454_2 := Aside0.mk (show Kd.V Kd.string 9 _ w.heap.size _ _ ((rd_T27 l0 x4_1).f2) from Kd.V_mk ul454_2 ge454_2)
              clear hva_ hvn_ hvc_ ge454_2 ul454_2
              have hv454_3 := hcc454 3 _ rfl
              rw [add_field _ _ 3 (by omega)] at hv454_3
              replace hv454_3 := Option.some.inj (hv454_3.symm.trans hx454_3)
              injection hv454_3 with hva_ hvn_ hvc_
              rw [hva_] at ge454_3
              rw [hvc_] at ul454_3
              have HL454_3 := Aside0.mk (show Kd.V (Kd.slice 9 Kd.string) 22 _ w.heap.size _ _ ((rd_T27 l0 x4_1).f3) from Kd.V_mk ul454_3 ge454_3)
              clear hva_ hvn_ hvc_ ge454_3 ul454_3
              clear hcc454 hce454
              have HR454_1 := Aside0.mk hi454_1
              have HC454_1 := Aside0.mk hl454_1
              clear hi454_1 hl454_1
              have HR454_2 := Aside0.mk hi454_2
              have HC454_2 := Aside0.mk hl454_2
              clear hi454_2 hl454_2
              have HR454_3 := Aside0.mk hi454_3
              have HC454_3 := Aside0.mk hl454_3
              clear hi454_3 hl454_3
              replace p454 := eq_true p454
              replace q454 := eq_true q454
              have ea_ := Option.some.inj (hx453_1.symm.trans hx454_1)
              injection ea_ with ea_ en_ ec_
              subst ea_
              subst ec_
              clear en_
              have ea_ := Option.some.inj (hx453_2.symm.trans hx454_2)
              injection ea_ with ea_ en_ ec_
              subst ea_
              subst ec_
              clear en_
              have ea_ := Option.some.inj (hx453_3.symm.trans hx454_3)
              injection ea_ with ea_ en_ ec_
              subst ea_
              subst ec_
              clear en_
              refine start_ (n := 15) (S := fun w' => w'.cell? (ad452.add ((x4_1).toNat * 4)) = some (.bool (true)) ∧ w'.cell? ⟨(ad452.add ((x4_1).toNat * 4)).block, (ad452.add ((x4_1).toNat * 4)).off + 1, none⟩ = some (.slice A453_1 ((rd_T27 l0 x4_1).f1).length c453_1) ∧ w'.cell? ⟨(ad452.add ((x4_1).toNat * 4)).block, (ad452.add ((x4_1).toNat * 4)).off + 2, none⟩ = some (.slice A453_2 ((rd_T27 l0 x4_1).f2).length c453_2) ∧ w'.cell? ⟨(ad452.add ((x4_1).toNat * 4)).block, (ad452.add ((x4_1).toNat * 4)).off + 3, none⟩ = some (.slice A453_3 ((rd_T27 l0 x4_1).f3).length c453_3) ∧ w'.cell? (ad452.add ((x4_1).toNat * 4)) = some (.bool (true)) ∧ w'.cell? ⟨(ad452.add ((x4_1).toNat * 4)).block, (ad452.add ((x4_1).toNat * 4)).off + 1, none⟩ = some (.slice A453_1 ((rd_T27 l0 x4_1).f1).length c453_1) ∧ w'.cell? ⟨(ad452.add ((x4_1).toNat * 4)).block, (ad452.add ((x4_1).toNat * 4)).off + 2, none⟩ = some (.slice A453_2 ((rd_T27 l0 x4_1).f2).length c453_2) ∧ w'.cell? ⟨(ad452.add ((x4_1).toNat * 4)).block, (ad452.add ((x4_1).toNat * 4)).off + 3, none⟩ = some (.slice A453_3 ((rd_T27 l0 x4_1).f3).length c453_3)) (ds := [12, 13]) #[false, false, false, false, false, false, false, false, false, false, false, false, false, false, false] (by kernel_rfl) rfl rfl ⟨hx453_0, hx453_1, hx453_2, hx453_3, hx454_0, hx454_1, hx454_2, hx454_3⟩ (fun hHeld => ?_); refine with_tabW sennitref07_Normal.tab5 sennitref07_Normal.bits5 (fun HT_ HW_ => ?_)
              generalize wr.drew = w7 at HO_0 HO_3 HL452_1 HL452_2 HL452_3 HR452_1 HR452_2 HR452_3 HB HL453_1 HL453_2 HL453_3 HL454_1 HL454_2 HL454_3 HR453_1 HR453_2 HR453_3 HR454_1 HR454_2 HR454_3 hx453_0 hx453_1 hx453_2 hx453_3 hx454_0 hx454_1 hx454_2 hx454_3 hHeld ⊢
              refine pure_ (i := 0) (N := some 15) (v := ?_) (a' := ?_) #[true, false, false, false, false, false, false, false, false, false, false, false, false, false, false] rfl rfl (any_of HT_.out (by kernel_rfl)) (fun _ _ _ h => h) (Or.inl ⟨by rfl, ?_⟩) ?_ ?_
              rotate_left
              · intro w'
                go_simp
                with_reducible rfl
              rotate_left
              · simp only [Act.put, List.setIfInBounds_toArray, List.set_cons_zero, List.set_cons_succ, i64_w, i32_w]
                rfl
              refine pure_ (i := 1) (N := some 16) (v := ?_) (a' := ?_) #[true, true, false, false, false, false, false, false, false, false, false, false, false, false, false] rfl rfl (any_of HT_.out (by kernel_rfl)) (fun _ _ _ h => h) (Or.inl ⟨by rfl, ?_⟩) ?_ ?_
              rotate_left
              · intro w'
                go_simp
                with_reducible rfl
              rotate_left
              · simp only [Act.put, List.setIfInBounds_toArray, List.set_cons_zero, List.set_cons_succ, i64_w, i32_w]
                rfl
              refine pure_ (i := 2) (N := some 17) (v := ?_) (a' := ?_) #[true, true, true, false, false, false, false, false, false, false, false, false, false, false, false] rfl rfl (any_of HT_.out (by kernel_rfl)) (fun _ _ _ h => h) (Or.inl ⟨by rfl, ?_⟩) ?_ ?_
              rotate_left
              · intro w'
                go_simp
                with_reducible rfl
              rotate_left
              · simp only [Act.put, List.setIfInBounds_toArray, List.set_cons_zero, List.set_cons_succ, i64_w, i32_w]
                rfl
              refine pure_ (i := 3) (N := some 18) (v := ?_) (a' := ?_) #[true, true, true, true, false, false, false, false, false, false, false, false, false, false, false] rfl rfl (any_of HT_.out (by kernel_rfl)) (fun _ _ _ h => h) (Or.inl ⟨by rfl, ?_⟩) ?_ ?_
              rotate_left
              · intro w'
                go_simp
                with_reducible rfl
              rotate_left
              · simp only [Act.put, List.setIfInBounds_toArray, List.set_cons_zero, List.set_cons_succ, i64_w, i32_w]
                rfl
              refine pure_ (i := 4) (N := some 19) (v := ?_) (a' := ?_) #[true, true, true, true, true, false, false, false, false, false, false, false, false, false, false] rfl rfl (any_of HT_.out (by kernel_rfl)) (fun _ _ _ h => h) (Or.inl ⟨by rfl, ?_⟩) ?_ ?_
              rotate_left
              · intro w'
                go_simp
                with_reducible rfl
              rotate_left
              · simp only [Act.put, List.setIfInBounds_toArray, List.set_cons_zero, List.set_cons_succ, i64_w, i32_w]
                rfl
              refine pure_ (i := 6) (N := some 21) (v := ?_) (a' := ?_) #[true, true, true, true, true, false, true, false, false, false, false, false, false, false, false] rfl rfl (any_of HT_.out (by kernel_rfl)) (fun _ _ _ h => h) (Or.inl ⟨by rfl, ?_⟩) ?_ ?_
              rotate_left
              · intro w'
                go_simp
                with_reducible rfl
              rotate_left
              · simp only [Act.put, List.setIfInBounds_toArray, List.set_cons_zero, List.set_cons_succ, i64_w, i32_w]
                rfl
              refine pure_ (i := 7) (N := some 22) (v := ?_) (a' := ?_) #[true, true, true, true, true, false, true, true, false, false, false, false, false, false, false] rfl rfl (any_of HT_.out (by kernel_rfl)) (fun _ _ _ h => h) (Or.inl ⟨by rfl, ?_⟩) ?_ ?_
              rotate_left
              · intro w'
                go_simp
                with_reducible rfl
              rotate_left
              · simp only [Act.put, List.setIfInBounds_toArray, List.set_cons_zero, List.set_cons_succ, i64_w, i32_w]
                rfl
              refine pure_ (i := 8) (N := some 23) (v := ?_) (a' := ?_) #[true, true, true, true, true, false, true, true, true, false, false, false, false, false, false] rfl rfl (any_of HT_.out (by kernel_rfl)) (fun _ _ _ h => h) (Or.inl ⟨by rfl, ?_⟩) ?_ ?_
              rotate_left
              · intro w'
                go_simp
                with_reducible rfl
              rotate_left
              · simp only [Act.put, List.setIfInBounds_toArray, List.set_cons_zero, List.set_cons_succ, i64_w, i32_w]
                rfl
              refine pure_ (i := 9) (N := some 24) (v := ?_) (a' := ?_) #[true, true, true, true, true, false, true, true, true, true, false, false, false, false, false] rfl rfl (any_of HT_.out (by kernel_rfl)) (fun _ _ _ h => h) (Or.inl ⟨by rfl, ?_⟩) ?_ ?_
              rotate_left
              · intro w'
                go_simp
                with_reducible rfl
              rotate_left
              · simp only [Act.put, List.setIfInBounds_toArray, List.set_cons_zero, List.set_cons_succ, i64_w, i32_w]
                rfl
              refine take_ (i := 5) (N := some 20) (v := ?_) (a' := ?_) #[true, true, true, true, true, true, true, true, true, true, false, false, false, false, false] rfl rfl (take_ofW HT_.out HW_.out (by kernel_rfl)) (fun _ _ _ h => h) (Or.inl ⟨by rfl, ?_⟩) hHeld ?_ ?_
              rotate_left
              · rintro w' ⟨s0, s1, s2, s3, s4, s5, s6, s7⟩
                go_simp
                with_reducible rfl
              rotate_left
              · simp only [Act.put, List.setIfInBounds_toArray, List.set_cons_zero, List.set_cons_succ, i64_w, i32_w]
                rfl
              refine take_ (i := 10) (N := some 25) (v := ?_) (a' := ?_) #[true, true, true, true, true, true, true, true, true, true, true, false, false, false, false] rfl rfl (take_ofW HT_.out HW_.out (by kernel_rfl)) (fun _ _ _ h => h) (Or.inl ⟨by rfl, ?_⟩) hHeld ?_ ?_
              rotate_left
              · rintro w' ⟨s0, s1, s2, s3, s4, s5, s6, s7⟩
                go_simp
                with_reducible rfl
              rotate_left
              · simp only [Act.put, List.setIfInBounds_toArray, List.set_cons_zero, List.set_cons_succ, i64_w, i32_w]
                rfl
              refine pure_ (i := 11) (N := some 26) (v := ?_) (a' := ?_) #[true, true, true, true, true, true, true, true, true, true, true, true, false, false, false] rfl rfl (any_of HT_.out (by kernel_rfl)) (fun _ _ _ h => h) (Or.inl ⟨by rfl, ?_⟩) ?_ ?_
              rotate_left
              · intro w'
                go_simp
                with_reducible rfl
              rotate_left
              · simp only [Act.put, List.setIfInBounds_toArray, List.set_cons_zero, List.set_cons_succ, i64_w, i32_w]
                rfl
              refine last_ (i := 12) (N := some 27) #[true, true, true, true, true, true, true, true, true, true, true, true, true, false, false] rfl rfl (one_of HT_.out (by kernel_rfl)) (by decide) (fun K hK => ?_)
              refine value_ (w1 := ?_) (v := ?_) (by rfl) rfl ?_ ?_
              rotate_left 2
              · go_simp
                constructor
                · rfl
                · rfl
              refine hK.out _ _ ?_
              clear hK K
              refine norm_ (a' := ?_) ?_ ?_
              rotate_left
              · show Act.put _ (some 27) _ = _
                simp only [Act.put, List.setIfInBounds_toArray, List.set_cons_zero, List.set_cons_succ, i64_w, i32_w]
                rfl
              refine last_ (i := 13) (N := some 28) #[true, true, true, true, true, true, true, true, true, true, true, true, true, true, false] rfl rfl (one_of HT_.out (by kernel_rfl)) (by decide) (fun K hK => ?_)
              refine Kd.N_append_step k27 (w0 := w) w.heap.size (by rfl) (.tmp 15) (.tmp 27) 48 27 (.agg #[(.bool false), (.slice none 0 0), (.slice none 0 0), (.slice none 0 0)]) 80 rfl Try.underlying48 info27 rfl (by decide) (by omega) u3 x3_1 (⟨true, ([] : List ByteArray), (rd_T27 l0 x4_1).f2, (rd_T27 l0 x4_1).f3⟩ : S27) [.bool true, .slice none 0 0, .slice A453_2 ((rd_T27 l0 x4_1).f2).length c453_2, .slice A453_3 ((rd_T27 l0 x4_1).f3).length c453_3] (fun k_ => (P0_ k_ ∨ w.heap.size ≤ k_)) (fun k_ => ((fun k_ => (P0_ k_ ∨ w.heap.size ≤ k_))) k_ ∧ some k_ ≠ (u3 : Value).ownBlock) rfl rfl ?aP (fun _ hk => hk) ?aF ?aO ?aB ?aS ?aL ?_
              (case aP => exact (k27_mkF _ _ (⟨true, ([] : List ByteArray), (rd_T27 l0 x4_1).f2, (rd_T27 l0 x4_1).f3⟩ : S27) (Nat.le_refl _) (Kd.F_nil _ _ _) (Kd.V_reads' (Kd.V_mono (ok' := (fun k_ => ((fun k_ => (P0_ k_ ∨ w.heap.size ≤ k_))) k_ ∧ some k_ ≠ (u3 : Value).ownBlock)) (HL453_2.out) (fun k_ hk => ⟨hk.1, hk.2⟩))).2.1 (Kd.V_F (Kd.V_mono (ok' := (fun k_ => ((fun k_ => (P0_ k_ ∨ w.heap.size ≤ k_))) k_ ∧ some k_ ≠ (u3 : Value).ownBlock)) (HL453_2.out) (fun k_ hk => ⟨hk.1, hk.2⟩))) (Kd.V_reads' (Kd.V_mono (ok' := (fun k_ => ((fun k_ => (P0_ k_ ∨ w.heap.size ≤ k_))) k_ ∧ some k_ ≠ (u3 : Value).ownBlock)) (HL454_3.out) (fun k_ hk => ⟨hk.1, hk.2⟩))).2.1 (Kd.V_F (Kd.V_mono (ok' := (fun k_ => ((fun k_ => (P0_ k_ ∨ w.heap.size ≤ k_))) k_ ∧ some k_ ≠ (u3 : Value).ownBlock)) (HL454_3.out) (fun k_ hk => ⟨hk.1, hk.2⟩)))))
              (case aB => exact (by repeat (first | (with_reducible first | exact HB.out | apply below_alloc | apply pw_below_drewN | apply below_drew1) | exact HB.out)))
              (case aF => exact (fun k_ hk => (.inr (Nat.le_trans (below_size (by repeat (first | (with_reducible first | exact HB.out | apply below_alloc | apply pw_below_drewN | apply below_drew1) | exact HB.out))) hk))))
              (case aO => exact (by (with_reducible repeat (first | apply Kd.N_alloc | apply Kd.N_drewN | apply Kd.N_drew)); exact HO_3.out))
              (case aS => exact (below_size (by repeat (first | (with_reducible first | exact HB.out | apply below_alloc | apply pw_below_drewN | apply below_drew1) | exact HB.out))))
              (case aL => have := LMc6.out; omega)
              intro v456 w8 ho hb hg hat
              rw [← Ny455.out] at ho
              have n0_ := Aside0.mk (Kd.V_afterv (ok := (fun k_ => (P0_ k_ ∨ w.heap.size ≤ k_))) (by (with_reducible repeat (first | apply Kd.V_alloc | apply Kd.V_drewN | apply Kd.V_drew)); exact HO_0.out) hg hat)
              have n1_ := Aside0.mk (Kd.V_afterv (ok := (fun k_ => (P0_ k_ ∨ w.heap.size ≤ k_))) (by (with_reducible repeat (first | apply Kd.V_alloc | apply Kd.V_drewN | apply Kd.V_drew)); exact HL452_1.out) hg hat)
              have n2_ := Aside0.mk (Kd.V_afterv (ok := (fun k_ => (P0_ k_ ∨ w.heap.size ≤ k_))) (by (with_reducible repeat (first | apply Kd.V_alloc | apply Kd.V_drewN | apply Kd.V_drew)); exact HL452_2.out) hg hat)
              have n3_ := Aside0.mk (Kd.V_afterv (ok := (fun k_ => (P0_ k_ ∨ w.heap.size ≤ k_))) (by (with_reducible repeat (first | apply Kd.V_alloc | apply Kd.V_drewN | apply Kd.V_drew)); exact HL452_3.out) hg hat)
              have n4_ := Aside0.mk (Kd.V_afterv (ok := (fun k_ => (P0_ k_ ∨ w.heap.size ≤ k_))) (by (with_reducible repeat (first | apply Kd.V_alloc | apply Kd.V_drewN | apply Kd.V_drew)); exact HL453_1.out) hg hat)
              have n5_ := Aside0.mk (Kd.V_afterv (ok := (fun k_ => (P0_ k_ ∨ w.heap.size ≤ k_))) (by (with_reducible repeat (first | apply Kd.V_alloc | apply Kd.V_drewN | apply Kd.V_drew)); exact HL453_2.out) hg hat)
              have n6_ := Aside0.mk (Kd.V_afterv (ok := (fun k_ => (P0_ k_ ∨ w.heap.size ≤ k_))) (by (with_reducible repeat (first | apply Kd.V_alloc | apply Kd.V_drewN | apply Kd.V_drew)); exact HL453_3.out) hg hat)
              have n7_ := Aside0.mk (Kd.V_afterv (ok := (fun k_ => (P0_ k_ ∨ w.heap.size ≤ k_))) (by (with_reducible repeat (first | apply Kd.V_alloc | apply Kd.V_drewN | apply Kd.V_drew)); exact HL454_1.out) hg hat)
              have n8_ := Aside0.mk (Kd.V_afterv (ok := (fun k_ => (P0_ k_ ∨ w.heap.size ≤ k_))) (by (with_reducible repeat (first | apply Kd.V_alloc | apply Kd.V_drewN | apply Kd.V_drew)); exact HL454_2.out) hg hat)
              have n9_ := Aside0.mk (Kd.V_afterv (ok := (fun k_ => (P0_ k_ ∨ w.heap.size ≤ k_))) (by (with_reducible repeat (first | apply Kd.V_alloc | apply Kd.V_drewN | apply Kd.V_drew)); exact HL454_3.out) hg hat)
              have n10_ := Aside0.mk (hb)
              have n11_ := Aside0.mk (ho)
              clear HO_0
              clear HL452_1
              clear HL452_2
              clear HL452_3
              clear HL453_1
              clear HL453_2
              clear HL453_3
              clear HL454_1
              clear HL454_2
              clear HL454_3
              clear HB
              clear HO_3
              have HO_0 := n0_
              have HL452_1 := n1_
              have HL452_2 := n2_
              have HL452_3 := n3_
              have HL453_1 := n4_
              have HL453_2 := n5_
              have HL453_3 := n6_
              have HL454_1 := n7_
              have HL454_2 := n8_
              have HL454_3 := n9_
              have HB := n10_
              have HO457 := n11_
              clear n0_ n1_ n2_ n3_ n4_ n5_ n6_ n7_ n8_ n9_ n10_ n11_
              clear ho hb hg hat
              refine hK.out _ _ ?_
              clear hK K
              refine norm_ (a' := ?_) ?_ ?_
              rotate_left
              · show Act.put _ (some 28) _ = _
                simp only [Act.put, List.setIfInBounds_toArray, List.set_cons_zero, List.set_cons_succ, i64_w, i32_w]
                rfl
              refine pure_ (i := 14) (N := some 3) (v := ?_) (a' := ?_) #[true, true, true, true, true, true, true, true, true, true, true, true, true, true, true] rfl rfl (any_of HT_.out (by kernel_rfl)) (fun _ _ _ h => h) (Or.inl ⟨by rfl, ?_⟩) ?_ ?_
              rotate_left
              · intro w'
                go_simp
                with_reducible rfl
              rotate_left
              · simp only [Act.put, List.setIfInBounds_toArray, List.set_cons_zero, List.set_cons_succ, i64_w, i32_w]
                rfl
              refine done_ (done_of HT_.out (by kernel_rfl)) ?_
              try go_wp2
              go_roundg k1
              case measure => have := HK1.out; omega
              case rel => exact ⟨(y455), (wrap64 (x4_1 + 1)), (by first | rfl | (simp; done) | (simp [*]; done)), H', ⟨by have := HK1.out; omega⟩, ⟨by (with_reducible repeat (first | apply Kd.V_alloc | apply Kd.V_drewN | apply Kd.V_drew)); exact HO_0.out⟩, ⟨by (with_reducible repeat (first | apply Kd.N_alloc | apply Kd.N_drewN | apply Kd.N_drew)); exact HO457.out⟩, ⟨by repeat (first | (with_reducible first | exact HB.out | apply below_alloc | apply pw_below_drewN | apply below_drew1) | exact HB.out)⟩⟩
            · rw [if_neg c6] at H
              exact absurd H (by simp)
          · replace c5 := Bool.eq_false_iff.mpr c5
            subst c5
            have H1 : (sennitref07_Normal.l1 k1 l0 x3_1 x4_1 ([] : List ByteArray)) = some r := by rw [if_neg (show ¬ (false = true) by decide)] at H; exact H
            clear H
            have H := H1
            clear H1
            have H' := Aside0.mk H
            clear H
            have p452 : 0 ≤ (x4_1 : Int) := of_decide_eq_true (by first | (with_reducible assumption) | assumption)
            have q452 : x4_1 < (l0.length : Int) := of_decide_eq_true (by first | (with_reducible assumption) | assumption)
            obtain ⟨ad452, A452_1, c452_1, A452_2, c452_2, A452_3, c452_3, e452, hx452_0, hx452_1, hx452_2, hx452_3, hl452_1, hi452_1, hl452_2, hi452_2, hl452_3, hi452_3⟩ := at_T27 (Kd.V_reads' HO_0.out).2.2 x4_1 p452 q452
            (try rw [← Nbq4.out] at hx452_0)
            cases e452
            obtain ⟨ce452, hce452, hMe452, hcc452⟩ := Kd.V_get HO_0.out z27 x4_1 p452 (by first | exact q452 | exact of_decide_eq_true (by first | (with_reducible assumption) | assumption) | (have e_ := (Kd.V_reads' HO_0.out).1; omega))
            obtain ⟨ua452_1, uc452_1, ua452_2, uc452_2, ua452_3, uc452_3, rfl, ul452_1, ge452_1, ul452_2, ge452_2, ul452_3, ge452_3⟩ := k27_openF hMe452
            have hv452_1 := hcc452 1 _ rfl
            rw [add_field _ _ 1 (by omega)] at hv452_1
            replace hv452_1 := Option.some.inj (hv452_1.symm.trans hx452_1)
            injection hv452_1 with hva_ hvn_ hvc_
            rw [hva_] at ge452_1
            rw [hvc_] at ul452_1
            have HL452_1 := Aside0.mk (show Kd.V Kd.string 9 _ w.heap.size _ _ ((rd_T27 l0 x4_1).f1) from Kd.V_mk ul452_1 ge452_1)
            clear hva_ hvn_ hvc_ ge452_1 ul452_1
            have hv452_2 := hcc452 2 _ rfl
            rw [add_field _ _ 2 (by omega)] at hv452_2
            replace hv452_2 := Option.some.inj (hv452_2.symm.trans hx452_2)
            injection hv452_2 with hva_ hvn_ hvc_
            rw [hva_] at ge452_2
            rw [hvc_] at ul452_2
            have HL452_2 := Aside0.mk (show Kd.V Kd.string 9 _ w.heap.size _ _ ((rd_T27 l0 x4_1).f2) from Kd.V_mk ul452_2 ge452_2)
            clear hva_ hvn_ hvc_ ge452_2 ul452_2
            have hv452_3 := hcc452 3 _ rfl
            rw [add_field _ _ 3 (by omega)] at hv452_3
            replace hv452_3 := Option.some.inj (hv452_3.symm.trans hx452_3)
            injection hv452_3 with hva_ hvn_ hvc_
            rw [hva_] at ge452_3
            rw [hvc_] at ul452_3
            have HL452_3 := Aside0.mk (show Kd.V (Kd.slice 9 Kd.string) 22 _ w.heap.size _ _ ((rd_T27 l0 x4_1).f3) from Kd.V_mk ul452_3 ge452_3)
            clear hva_ hvn_ hvc_ ge452_3 ul452_3
            clear hcc452 hce452
            have HR452_1 := Aside0.mk hi452_1
            have HC452_1 := Aside0.mk hl452_1
            clear hi452_1 hl452_1
            have HR452_2 := Aside0.mk hi452_2
            have HC452_2 := Aside0.mk hl452_2
            clear hi452_2 hl452_2
            have HR452_3 := Aside0.mk hi452_3
            have HC452_3 := Aside0.mk hl452_3
            clear hi452_3 hl452_3
            replace p452 := eq_true p452
            replace q452 := eq_true q452
            go_wp2
            go_loopg [4, 5] k1 (fun kq v4 v5 w' => ∃ (x4_2 : Int) (x5_2 : List ByteArray), v4 = .int .i64 x4_2 ∧ Aside0 (sennitref07_Normal.l1 kq l0 x3_1 x4_2 x5_2 = some r) ∧ Aside0 (kq ≤ k1) ∧ Aside0 (Kd.V k27 27 w' w.heap.size (fun k_ => (P0_ k_ ∨ w.heap.size ≤ k_) ∧ some k_ ≠ (u3 : Value).ownBlock ∧ some k_ ≠ (v5 : Value).ownBlock) (.slice (some ad452) l0.length c0) l0) ∧ Aside0 (Kd.N k27 27 w' w.heap.size (fun k_ => (P0_ k_ ∨ w.heap.size ≤ k_) ∧ some k_ ≠ (v5 : Value).ownBlock) u3 x3_1) ∧ Aside0 (Kd.R Kd.string 9 w' w.heap.size (fun k_ => (w.heap.size ≤ k_)) v5 x5_2) ∧ Aside0 (Below w.heap.size w w'))
            case atStart => exact ⟨(x4_1), (([] : List ByteArray)), (by first | rfl | (simp; done) | (simp [*]; done)), H', ⟨Nat.le_refl _⟩, ⟨by (with_reducible repeat (first | apply Kd.V_alloc | apply Kd.V_drewN | apply Kd.V_drew)); exact Kd.V_mono HO_0.out (fun _ hk => ⟨hk.1, ⟨hk.2, (by simp [Value.ownBlock])⟩⟩)⟩, ⟨by (with_reducible repeat (first | apply Kd.N_alloc | apply Kd.N_drewN | apply Kd.N_drew)); exact Kd.N_mono HO_3.out (fun _ hk => ⟨hk, (by simp [Value.ownBlock])⟩)⟩, ⟨by first | exact Kd.R_nil _ _ _ _ _ | exact Kd.N_nil _ _ _ _ _ | exact Kd.V_nil _ _ _ _ _ | exact Kd.Q_nil _ _ _ _ _ | exact Kd.S_nil _ _ _ _ _⟩, ⟨by repeat (first | (with_reducible first | exact HB.out | apply below_alloc | apply pw_below_drewN | apply below_drew1) | exact HB.out)⟩⟩
            case round =>
              clear H'
              try clear c2
              try clear c2b0
              try clear p2
              try clear c3
              try clear c3b0
              try clear c4
              try clear p4
              try clear q4
              try clear hx4
              try clear c5
              try clear c6
              try clear p6
              try clear hx452_0
              try clear hx452_1
              try clear hx452_2
              try clear hx452_3
              try clear hx453_0
              try clear hx453_1
              try clear hx453_2
              try clear hx453_3
              try clear hx454_0
              try clear hx454_1
              try clear hx454_2
              try clear hx454_3
              try clear p452
              try clear p453
              try clear p454
              try clear q452
              try clear q453
              try clear q454
              obtain ⟨x4_2, x5_2, rfl, HA, HK2, HO_0, HO_3, HO_5, HB⟩ := hrel
              cases gk with
              | zero => exact absurd HA.out (by simp [sennitref07_Normal.l1])
              | succ k2 =>
                have H := HA.out
                clear HA
                simp only [sennitref07_Normal.l1] at H
                by_cases c9 : x4_2 < (l0.length : Int)
                · rw [if_pos c9] at H
                  have c9b0 : decide (x4_2 < (l0.length : Int)) = true := decide_eq_true c9
                  clear c9
                  by_cases c10 : 0 ≤ x4_2
                  · rw [if_pos c10] at H
                    have c10b0 : decide (0 ≤ x4_2) = true := decide_eq_true c10
                    clear c10
                    obtain ⟨bq11, hbq11⟩ : ∃ b_ : Bool, b_ = ((rd_T27 l0 x4_2).f0) := ⟨_, rfl⟩
                    replace H : (if (bq11 = true) then (if (x5_2.length : Int) > 0 then (if x3_1.length < 1759218604441 then (sennitref07_Normal.l0 k2 l0 (x3_1 ++ [(⟨false, x5_2, ([] : List ByteArray), ([] : List (List ByteArray))⟩ : S27)]) x4_2) else (none)) else (sennitref07_Normal.l0 k2 l0 x3_1 x4_2)) else (if x5_2.length + ((rd_T27 l0 x4_2).f1).length < 8796093022208 then (sennitref07_Normal.l1 k2 l0 x3_1 (wrap64 (x4_2 + 1)) (x5_2 ++ ((rd_T27 l0 x4_2).f1))) else (none))) = some r := by rw [← hbq11] at H; exact H
                    have Nbq11 := Aside0.mk hbq11
                    clear hbq11
                    by_cases c12 : (bq11 = true)
                    · subst c12
                      have H1 : (if (x5_2.length : Int) > 0 then (if x3_1.length < 1759218604441 then (sennitref07_Normal.l0 k2 l0 (x3_1 ++ [(⟨false, x5_2, ([] : List ByteArray), ([] : List (List ByteArray))⟩ : S27)]) x4_2) else (none)) else (sennitref07_Normal.l0 k2 l0 x3_1 x4_2)) = some r := by rw [if_pos rfl] at H; exact H
                      clear H
                      have H := H1
                      clear H1
                      by_cases c13 : (x5_2.length : Int) > 0
                      · rw [if_pos c13] at H
                        have c13b0 : decide (0 < (x5_2.length : Int)) = true := decide_eq_true c13
                        have c13b1 : decide (0 < x5_2.length) = true := decide_eq_true (by omega)
                        clear c13
                        by_cases c14 : x3_1.length < 1759218604441
                        · rw [if_pos c14] at H
                          have LMc14 := Aside0.mk c14
                          clear c14
                          obtain ⟨y459, hy459⟩ : ∃ y_ : List (S27), y_ = (x3_1 ++ [(⟨false, x5_2, ([] : List ByteArray), ([] : List (List ByteArray))⟩ : S27)]) := ⟨_, rfl⟩
                          replace H : (sennitref07_Normal.l0 k2 l0 y459 x4_2) = some r := by first | (rw [hy459]; with_reducible exact H) | (have H2_ := (Option.bind_some _ _).symm.trans H; rw [hy459]; with_reducible exact H2_) | (have H2_ := (Option.bind_some _ _).symm.trans H; with_reducible exact H2_) | with_reducible exact H | (rw [hy459]; exact H) | exact H
                          have Ny459 := Aside0.mk hy459
                          clear hy459
                          have H' := Aside0.mk H
                          clear H
                          have p458 : 0 ≤ (x4_2 : Int) := of_decide_eq_true (by first | (with_reducible assumption) | assumption)
                          have q458 : x4_2 < (l0.length : Int) := of_decide_eq_true (by first | (with_reducible assumption) | assumption)
                          obtain ⟨ad458, A458_1, c458_1, A458_2, c458_2, A458_3, c458_3, e458, hx458_0, hx458_1, hx458_2, hx458_3, hl458_1, hi458_1, hl458_2, hi458_2, hl458_3, hi458_3⟩ := at_T27 (Kd.V_reads' HO_0.out).2.2 x4_2 p458 q458
                          (try rw [← Nbq4.out] at hx458_0)
                          (try rw [← Nbq11.out] at hx458_0)
                          obtain rfl : ad452 = ad458 := (by injection e458)
                          obtain ⟨ce458, hce458, hMe458, hcc458⟩ := Kd.V_get HO_0.out z27 x4_2 p458 (by first | exact q458 | exact of_decide_eq_true (by first | (with_reducible assumption) | assumption) | (have e_ := (Kd.V_reads' HO_0.out).1; omega))
                          obtain ⟨ua458_1, uc458_1, ua458_2, uc458_2, ua458_3, uc458_3, rfl, ul458_1, ge458_1, ul458_2, ge458_2, ul458_3, ge458_3⟩ := k27_openF hMe458
                          have hv458_1 := hcc458 1 _ rfl
                          rw [add_field _ _ 1 (by omega)] at hv458_1
                          replace hv458_1 := Option.some.inj (hv458_1.symm.trans hx458_1)
                          injection hv458_1 with hva_ hvn_ hvc_
                          rw [hva_] at ge458_1
                          rw [hvc_] at ul458_1
                          have HL458_1 := Aside0.mk (show Kd.V Kd.string 9 _ w.heap.size _ _ ((rd_T27 l0 x4_2).f1) from Kd.V_mk ul458_1 ge458_1)
                          clear hva_ hvn_ hvc_ ge458_1 ul458_1
                          have hv458_2 := hcc458 2 _ rfl
                          rw [add_field _ _ 2 (by omega)] at hv458_2
                          replace hv458_2 := Option.some.inj (hv458_2.symm.trans hx458_2)
                          injection hv458_2 with hva_ hvn_ hvc_
                          rw [hva_] at ge458_2
                          rw [hvc_] at ul458_2
                          have HL458_2 := Aside0.mk (show Kd.V Kd.string 9 _ w.heap.size _ _ ((rd_T27 l0 x4_2).f2) from Kd.V_mk ul458_2 ge458_2)
                          clear hva_ hvn_ hvc_ ge458_2 ul458_2
                          have hv458_3 := hcc458 3 _ rfl
                          rw [add_field _ _ 3 (by omega)] at hv458_3
                          replace hv458_3 := Option.some.inj (hv458_3.symm.trans hx458_3)
                          injection hv458_3 with hva_ hvn_ hvc_
                          rw [hva_] at ge458_3
                          rw [hvc_] at ul458_3
                          have HL458_3 := Aside0.mk (show Kd.V (Kd.slice 9 Kd.string) 22 _ w.heap.size _ _ ((rd_T27 l0 x4_2).f3) from Kd.V_mk ul458_3 ge458_3)
                          clear hva_ hvn_ hvc_ ge458_3 ul458_3
                          clear hcc458 hce458
                          have HR458_1 := Aside0.mk hi458_1
                          have HC458_1 := Aside0.mk hl458_1
                          clear hi458_1 hl458_1
                          have HR458_2 := Aside0.mk hi458_2
                          have HC458_2 := Aside0.mk hl458_2
                          clear hi458_2 hl458_2
                          have HR458_3 := Aside0.mk hi458_3
                          have HC458_3 := Aside0.mk hl458_3
                          clear hi458_3 hl458_3
                          replace p458 := eq_true p458
                          replace q458 := eq_true q458
                          obtain ⟨Ao15, co15, eo15⟩ := Kd.R_slice HO_5.out
                          subst eo15
                          go_wp2_with (first | ((with_reducible refine gate_builtin (b := .append) (xs := #[.tmp 55, .tmp 58]) rfl ?_); at_builtin; refine Kd.N_append k27 (w0 := w) w.heap.size rfl (.tmp 55) (.tmp 58) 48 27 (.agg #[(.bool false), (.slice none 0 0), (.slice none 0 0), (.slice none 0 0)]) 80 rfl Try.underlying48 info27 rfl (by decide) (by omega) u3 x3_1 (⟨false, x5_2, ([] : List ByteArray), ([] : List (List ByteArray))⟩ : S27) [.bool false, .slice Ao15 x5_2.length co15, .slice none 0 0, .slice none 0 0] (fun k_ => (P0_ k_ ∨ w.heap.size ≤ k_)) (fun k_ => ((fun k_ => (P0_ k_ ∨ w.heap.size ≤ k_))) k_ ∧ some k_ ≠ (u3 : Value).ownBlock) rfl rfl ?aP (fun _ hk => hk) ?aF ?aO ?aB ?aS ?aL ?_; (case aP => exact (k27_mkF _ _ (⟨false, x5_2, ([] : List ByteArray), ([] : List (List ByteArray))⟩ : S27) (Kd.R_reads' (Kd.R_mono (ok' := (fun k_ => ((fun k_ => (P0_ k_ ∨ w.heap.size ≤ k_))) k_ ∧ some k_ ≠ (u3 : Value).ownBlock)) (Kd.R_apart' (HO_5.out) (Kd.N_typed HO_3.out) (by decide)) (fun k_ hk => ⟨(.inr (hk.1)), hk.2⟩))).2.1 (Kd.R_F (Kd.R_mono (ok' := (fun k_ => ((fun k_ => (P0_ k_ ∨ w.heap.size ≤ k_))) k_ ∧ some k_ ≠ (u3 : Value).ownBlock)) (Kd.R_apart' (HO_5.out) (Kd.N_typed HO_3.out) (by decide)) (fun k_ hk => ⟨(.inr (hk.1)), hk.2⟩))) (Nat.le_refl _) (Kd.F_nil _ _ _) (Nat.le_refl _) (Kd.F_nil _ _ _))); (case aB => exact (by repeat (first | (with_reducible first | exact HB.out | apply below_alloc | apply pw_below_drewN | apply below_drew1) | exact HB.out))); (case aF => exact (fun k_ hk => (.inr (Nat.le_trans (below_size (by repeat (first | (with_reducible first | exact HB.out | apply below_alloc | apply pw_below_drewN | apply below_drew1) | exact HB.out))) hk)))); (case aO => exact (by (with_reducible repeat (first | apply Kd.N_alloc | apply Kd.N_drewN | apply Kd.N_drew)); exact Kd.N_mono HO_3.out (fun _ hk => hk.1))); (case aS => exact (below_size (by repeat (first | (with_reducible first | exact HB.out | apply below_alloc | apply pw_below_drewN | apply below_drew1) | exact HB.out)))); (case aL => have := LMc14.out; omega); intro v460 w16 ho hb hg hat; rw [← Ny459.out] at ho; have n0_ := Aside0.mk (Kd.V_afterv (ok := (fun k_ => (P0_ k_ ∨ w.heap.size ≤ k_) ∧ some k_ ≠ (.slice Ao15 x5_2.length co15 : Value).ownBlock)) (by (with_reducible repeat (first | apply Kd.V_alloc | apply Kd.V_drewN | apply Kd.V_drew)); exact Kd.V_mono HO_0.out (fun _ hk => ⟨⟨hk.1, hk.2.2⟩, hk.2.1⟩)) hg hat); have n1_ := Aside0.mk (Kd.V_afterv (ok := (fun k_ => (P0_ k_ ∨ w.heap.size ≤ k_) ∧ some k_ ≠ (.slice Ao15 x5_2.length co15 : Value).ownBlock)) (by (with_reducible repeat (first | apply Kd.V_alloc | apply Kd.V_drewN | apply Kd.V_drew)); exact Kd.V_mono HL458_1.out (fun _ hk => ⟨⟨hk.1, hk.2.2⟩, hk.2.1⟩)) hg hat); have n2_ := Aside0.mk (Kd.V_afterv (ok := (fun k_ => (P0_ k_ ∨ w.heap.size ≤ k_) ∧ some k_ ≠ (.slice Ao15 x5_2.length co15 : Value).ownBlock)) (by (with_reducible repeat (first | apply Kd.V_alloc | apply Kd.V_drewN | apply Kd.V_drew)); exact Kd.V_mono HL458_2.out (fun _ hk => ⟨⟨hk.1, hk.2.2⟩, hk.2.1⟩)) hg hat); have n3_ := Aside0.mk (Kd.V_afterv (ok := (fun k_ => (P0_ k_ ∨ w.heap.size ≤ k_) ∧ some k_ ≠ (.slice Ao15 x5_2.length co15 : Value).ownBlock)) (by (with_reducible repeat (first | apply Kd.V_alloc | apply Kd.V_drewN | apply Kd.V_drew)); exact Kd.V_mono HL458_3.out (fun _ hk => ⟨⟨hk.1, hk.2.2⟩, hk.2.1⟩)) hg hat); have n4_ := Aside0.mk (hb); have n5_ := Aside0.mk (ho); clear HO_0; clear HL458_1; clear HL458_2; clear HL458_3; clear HB; clear HO_3; clear HO_5; have HO_0 := n0_; have HL458_1 := n1_; have HL458_2 := n2_; have HL458_3 := n3_; have HB := n4_; have HO461 := n5_; clear n0_ n1_ n2_ n3_ n4_ n5_; clear ho hb hg hat))
                          go_roundg k2
                          case measure => have := HK1.out; have := HK2.out; omega
                          case rel => exact ⟨(y459), (x4_2), (by first | rfl | (simp; done) | (simp [*]; done)), H', ⟨by have := HK1.out; have := HK2.out; omega⟩, ⟨by (with_reducible repeat (first | apply Kd.V_alloc | apply Kd.V_drewN | apply Kd.V_drew)); exact Kd.V_mono HO_0.out (fun _ hk => ⟨hk.1.1, hk.2⟩)⟩, ⟨by (with_reducible repeat (first | apply Kd.N_alloc | apply Kd.N_drewN | apply Kd.N_drew)); exact HO461.out⟩, ⟨by repeat (first | (with_reducible first | exact HB.out | apply below_alloc | apply pw_below_drewN | apply below_drew1) | exact HB.out)⟩⟩
                        · rw [if_neg c14] at H
                          exact absurd H (by simp)
                      · rw [if_neg c13] at H
                        have c13b0 : decide (0 < (x5_2.length : Int)) = false := decide_eq_false c13
                        have c13b1 : decide (0 < x5_2.length) = false := decide_eq_false (by omega)
                        clear c13
                        have H' := Aside0.mk H
                        clear H
                        have p458 : 0 ≤ (x4_2 : Int) := of_decide_eq_true (by first | (with_reducible assumption) | assumption)
                        have q458 : x4_2 < (l0.length : Int) := of_decide_eq_true (by first | (with_reducible assumption) | assumption)
                        obtain ⟨ad458, A458_1, c458_1, A458_2, c458_2, A458_3, c458_3, e458, hx458_0, hx458_1, hx458_2, hx458_3, hl458_1, hi458_1, hl458_2, hi458_2, hl458_3, hi458_3⟩ := at_T27 (Kd.V_reads' HO_0.out).2.2 x4_2 p458 q458
                        (try rw [← Nbq4.out] at hx458_0)
                        (try rw [← Nbq11.out] at hx458_0)
                        obtain rfl : ad452 = ad458 := (by injection e458)
                        obtain ⟨ce458, hce458, hMe458, hcc458⟩ := Kd.V_get HO_0.out z27 x4_2 p458 (by first | exact q458 | exact of_decide_eq_true (by first | (with_reducible assumption) | assumption) | (have e_ := (Kd.V_reads' HO_0.out).1; omega))
                        obtain ⟨ua458_1, uc458_1, ua458_2, uc458_2, ua458_3, uc458_3, rfl, ul458_1, ge458_1, ul458_2, ge458_2, ul458_3, ge458_3⟩ := k27_openF hMe458
                        have hv458_1 := hcc458 1 _ rfl
                        rw [add_field _ _ 1 (by omega)] at hv458_1
                        replace hv458_1 := Option.some.inj (hv458_1.symm.trans hx458_1)
                        injection hv458_1 with hva_ hvn_ hvc_
                        rw [hva_] at ge458_1
                        rw [hvc_] at ul458_1
                        have HL458_1 := Aside0.mk (show Kd.V Kd.string 9 _ w.heap.size _ _ ((rd_T27 l0 x4_2).f1) from Kd.V_mk ul458_1 ge458_1)
                        clear hva_ hvn_ hvc_ ge458_1 ul458_1
                        have hv458_2 := hcc458 2 _ rfl
                        rw [add_field _ _ 2 (by omega)] at hv458_2
                        replace hv458_2 := Option.some.inj (hv458_2.symm.trans hx458_2)
                        injection hv458_2 with hva_ hvn_ hvc_
                        rw [hva_] at ge458_2
                        rw [hvc_] at ul458_2
                        have HL458_2 := Aside0.mk (show Kd.V Kd.string 9 _ w.heap.size _ _ ((rd_T27 l0 x4_2).f2) from Kd.V_mk ul458_2 ge458_2)
                        clear hva_ hvn_ hvc_ ge458_2 ul458_2
                        have hv458_3 := hcc458 3 _ rfl
                        rw [add_field _ _ 3 (by omega)] at hv458_3
                        replace hv458_3 := Option.some.inj (hv458_3.symm.trans hx458_3)
                        injection hv458_3 with hva_ hvn_ hvc_
                        rw [hva_] at ge458_3
                        rw [hvc_] at ul458_3
                        have HL458_3 := Aside0.mk (show Kd.V (Kd.slice 9 Kd.string) 22 _ w.heap.size _ _ ((rd_T27 l0 x4_2).f3) from Kd.V_mk ul458_3 ge458_3)
                        clear hva_ hvn_ hvc_ ge458_3 ul458_3
                        clear hcc458 hce458
                        have HR458_1 := Aside0.mk hi458_1
                        have HC458_1 := Aside0.mk hl458_1
                        clear hi458_1 hl458_1
                        have HR458_2 := Aside0.mk hi458_2
                        have HC458_2 := Aside0.mk hl458_2
                        clear hi458_2 hl458_2
                        have HR458_3 := Aside0.mk hi458_3
                        have HC458_3 := Aside0.mk hl458_3
                        clear hi458_3 hl458_3
                        replace p458 := eq_true p458
                        replace q458 := eq_true q458
                        obtain ⟨Ao17, co17, eo17⟩ := Kd.R_slice HO_5.out
                        subst eo17
                        go_wp2
                        go_roundg k2
                        case measure => have := HK1.out; have := HK2.out; omega
                        case rel => exact ⟨(x3_1), (x4_2), (by first | rfl | (simp; done) | (simp [*]; done)), H', ⟨by have := HK1.out; have := HK2.out; omega⟩, ⟨by (with_reducible repeat (first | apply Kd.V_alloc | apply Kd.V_drewN | apply Kd.V_drew)); exact Kd.V_mono HO_0.out (fun _ hk => ⟨hk.1, hk.2.1⟩)⟩, ⟨by (with_reducible repeat (first | apply Kd.N_alloc | apply Kd.N_drewN | apply Kd.N_drew)); exact Kd.N_mono HO_3.out (fun _ hk => hk.1)⟩, ⟨by repeat (first | (with_reducible first | exact HB.out | apply below_alloc | apply pw_below_drewN | apply below_drew1) | exact HB.out)⟩⟩
                    · replace c12 := Bool.eq_false_iff.mpr c12
                      subst c12
                      have H1 : (if x5_2.length + ((rd_T27 l0 x4_2).f1).length < 8796093022208 then (sennitref07_Normal.l1 k2 l0 x3_1 (wrap64 (x4_2 + 1)) (x5_2 ++ ((rd_T27 l0 x4_2).f1))) else (none)) = some r := by rw [if_neg (show ¬ (false = true) by decide)] at H; exact H
                      clear H
                      have H := H1
                      clear H1
                      by_cases c18 : x5_2.length + ((rd_T27 l0 x4_2).f1).length < 8796093022208
                      · rw [if_pos c18] at H
                        have LMc18 := Aside0.mk c18
                        clear c18
                        obtain ⟨y463, hy463⟩ : ∃ y_ : List ByteArray, y_ = (x5_2 ++ ((rd_T27 l0 x4_2).f1)) := ⟨_, rfl⟩
                        replace H : (sennitref07_Normal.l1 k2 l0 x3_1 (wrap64 (x4_2 + 1)) y463) = some r := by first | (rw [hy463]; with_reducible exact H) | (have H2_ := (Option.bind_some _ _).symm.trans H; rw [hy463]; with_reducible exact H2_) | (have H2_ := (Option.bind_some _ _).symm.trans H; with_reducible exact H2_) | with_reducible exact H | (rw [hy463]; exact H) | exact H
                        have Ny463 := Aside0.mk hy463
                        clear hy463
                        have H' := Aside0.mk H
                        clear H
                        have p458 : 0 ≤ (x4_2 : Int) := of_decide_eq_true (by first | (with_reducible assumption) | assumption)
                        have q458 : x4_2 < (l0.length : Int) := of_decide_eq_true (by first | (with_reducible assumption) | assumption)
                        obtain ⟨ad458, A458_1, c458_1, A458_2, c458_2, A458_3, c458_3, e458, hx458_0, hx458_1, hx458_2, hx458_3, hl458_1, hi458_1, hl458_2, hi458_2, hl458_3, hi458_3⟩ := at_T27 (Kd.V_reads' HO_0.out).2.2 x4_2 p458 q458
                        (try rw [← Nbq4.out] at hx458_0)
                        (try rw [← Nbq11.out] at hx458_0)
                        obtain rfl : ad452 = ad458 := (by injection e458)
                        obtain ⟨ce458, hce458, hMe458, hcc458⟩ := Kd.V_get HO_0.out z27 x4_2 p458 (by first | exact q458 | exact of_decide_eq_true (by first | (with_reducible assumption) | assumption) | (have e_ := (Kd.V_reads' HO_0.out).1; omega))
                        obtain ⟨ua458_1, uc458_1, ua458_2, uc458_2, ua458_3, uc458_3, rfl, ul458_1, ge458_1, ul458_2, ge458_2, ul458_3, ge458_3⟩ := k27_openF hMe458
                        have hv458_1 := hcc458 1 _ rfl
                        rw [add_field _ _ 1 (by omega)] at hv458_1
                        replace hv458_1 := Option.some.inj (hv458_1.symm.trans hx458_1)
                        injection hv458_1 with hva_ hvn_ hvc_
                        rw [hva_] at ge458_1
                        rw [hvc_] at ul458_1
                        have HL458_1 := Aside0.mk (show Kd.V Kd.string 9 _ w.heap.size _ _ ((rd_T27 l0 x4_2).f1) from Kd.V_mk ul458_1 ge458_1)
                        clear hva_ hvn_ hvc_ ge458_1 ul458_1
                        have hv458_2 := hcc458 2 _ rfl
                        rw [add_field _ _ 2 (by omega)] at hv458_2
                        replace hv458_2 := Option.some.inj (hv458_2.symm.trans hx458_2)
                        injection hv458_2 with hva_ hvn_ hvc_
                        rw [hva_] at ge458_2
                        rw [hvc_] at ul458_2
                        have HL458_2 := Aside0.mk (show Kd.V Kd.string 9 _ w.heap.size _ _ ((rd_T27 l0 x4_2).f2) from Kd.V_mk ul458_2 ge458_2)
                        clear hva_ hvn_ hvc_ ge458_2 ul458_2
                        have hv458_3 := hcc458 3 _ rfl
                        rw [add_field _ _ 3 (by omega)] at hv458_3
                        replace hv458_3 := Option.some.inj (hv458_3.symm.trans hx458_3)
                        injection hv458_3 with hva_ hvn_ hvc_
                        rw [hva_] at ge458_3
                        rw [hvc_] at ul458_3
                        have HL458_3 := Aside0.mk (show Kd.V (Kd.slice 9 Kd.string) 22 _ w.heap.size _ _ ((rd_T27 l0 x4_2).f3) from Kd.V_mk ul458_3 ge458_3)
                        clear hva_ hvn_ hvc_ ge458_3 ul458_3
                        clear hcc458 hce458
                        have HR458_1 := Aside0.mk hi458_1
                        have HC458_1 := Aside0.mk hl458_1
                        clear hi458_1 hl458_1
                        have HR458_2 := Aside0.mk hi458_2
                        have HC458_2 := Aside0.mk hl458_2
                        clear hi458_2 hl458_2
                        have HR458_3 := Aside0.mk hi458_3
                        have HC458_3 := Aside0.mk hl458_3
                        clear hi458_3 hl458_3
                        replace p458 := eq_true p458
                        replace q458 := eq_true q458
                        have p462 : 0 ≤ (x4_2 : Int) := of_decide_eq_true (by first | (with_reducible assumption) | assumption)
                        have q462 : x4_2 < (l0.length : Int) := of_decide_eq_true (by first | (with_reducible assumption) | assumption)
                        obtain ⟨ad462, A462_1, c462_1, A462_2, c462_2, A462_3, c462_3, e462, hx462_0, hx462_1, hx462_2, hx462_3, hl462_1, hi462_1, hl462_2, hi462_2, hl462_3, hi462_3⟩ := at_T27 (Kd.V_reads' HO_0.out).2.2 x4_2 p462 q462
                        (try rw [← Nbq4.out] at hx462_0)
                        (try rw [← Nbq11.out] at hx462_0)
                        obtain rfl : ad452 = ad462 := (by injection e462)
                        obtain ⟨ce462, hce462, hMe462, hcc462⟩ := Kd.V_get HO_0.out z27 x4_2 p462 (by first | exact q462 | exact of_decide_eq_true (by first | (with_reducible assumption) | assumption) | (have e_ := (Kd.V_reads' HO_0.out).1; omega))
                        obtain ⟨ua462_1, uc462_1, ua462_2, uc462_2, ua462_3, uc462_3, rfl, ul462_1, ge462_1, ul462_2, ge462_2, ul462_3, ge462_3⟩ := k27_openF hMe462
                        have hv462_1 := hcc462 1 _ rfl
                        rw [add_field _ _ 1 (by omega)] at hv462_1
                        replace hv462_1 := Option.some.inj (hv462_1.symm.trans hx462_1)
                        injection hv462_1 with hva_ hvn_ hvc_
                        rw [hva_] at ge462_1
                        rw [hvc_] at ul462_1
                        have HL462_1 := Aside0.mk (show Kd.V Kd.string 9 _ w.heap.size _ _ ((rd_T27 l0 x4_2).f1) from Kd.V_mk ul462_1 ge462_1)
                        clear hva_ hvn_ hvc_ ge462_1 ul462_1
                        have hv462_2 := hcc462 2 _ rfl
                        rw [add_field _ _ 2 (by omega)] at hv462_2
                        replace hv462_2 := Option.some.inj (hv462_2.symm.trans hx462_2)
                        injection hv462_2 with hva_ hvn_ hvc_
                        rw [hva_] at ge462_2
                        rw [hvc_] at ul462_2
                        have HL462_2 := Aside0.mk (show Kd.V Kd.string 9 _ w.heap.size _ _ ((rd_T27 l0 x4_2).f2) from Kd.V_mk ul462_2 ge462_2)
                        clear hva_ hvn_ hvc_ ge462_2 ul462_2
                        have hv462_3 := hcc462 3 _ rfl
                        rw [add_field _ _ 3 (by omega)] at hv462_3
                        replace hv462_3 := Option.some.inj (hv462_3.symm.trans hx462_3)
                        injection hv462_3 with hva_ hvn_ hvc_
                        rw [hva_] at ge462_3
                        rw [hvc_] at ul462_3
                        have HL462_3 := Aside0.mk (show Kd.V (Kd.slice 9 Kd.string) 22 _ w.heap.size _ _ ((rd_T27 l0 x4_2).f3) from Kd.V_mk ul462_3 ge462_3)
                        clear hva_ hvn_ hvc_ ge462_3 ul462_3
                        clear hcc462 hce462
                        have HR462_1 := Aside0.mk hi462_1
                        have HC462_1 := Aside0.mk hl462_1
                        clear hi462_1 hl462_1
                        have HR462_2 := Aside0.mk hi462_2
                        have HC462_2 := Aside0.mk hl462_2
                        clear hi462_2 hl462_2
                        have HR462_3 := Aside0.mk hi462_3
                        have HC462_3 := Aside0.mk hl462_3
                        clear hi462_3 hl462_3
                        replace p462 := eq_true p462
                        replace q462 := eq_true q462
                        have ea_ := Option.some.inj (hx458_1.symm.trans hx462_1)
                        injection ea_ with ea_ en_ ec_
                        subst ea_
                        subst ec_
                        clear en_
                        have ea_ := Option.some.inj (hx458_2.symm.trans hx462_2)
                        injection ea_ with ea_ en_ ec_
                        subst ea_
                        subst ec_
                        clear en_
                        have ea_ := Option.some.inj (hx458_3.symm.trans hx462_3)
                        injection ea_ with ea_ en_ ec_
                        subst ea_
                        subst ec_
                        clear en_
                        go_wp2_with (first | ((with_reducible refine gate_builtin (b := .append) (xs := #[.tmp 43, .tmp 48]) rfl ?_); at_builtin; refine Kd.R_append_rows Kd.string (w0 := w) w.heap.size rfl (.tmp 43) (.tmp 48) 22 9 (.string ⟨#[]⟩) 16 rfl Try.underlying22 info9 rfl (by decide) (by omega) u5 x5_2 ((rd_T27 l0 x4_2).f1) _ _ _ (fun k_ => (w.heap.size ≤ k_)) (fun _ => False) rfl rfl ?aO ?aR (fun _ _ h => h) (fun _ h => h.elim) ?aF ?aB ?aS ?aL ?_; (case aR => repeat (first | exact (by repeat (first | (with_reducible exact HR462_1.out) | (with_reducible refine Kd.C_alloc ?_ _) | (with_reducible refine Kd.C_drewN ?_ _) | (with_reducible refine Kd.C_drew ?_) | exact HR462_1.out)) | (with_reducible refine Kd.C_alloc ?_ _) | (with_reducible refine Kd.C_drewN ?_ _) | (with_reducible refine Kd.C_drew ?_))); (case aB => exact (by repeat (first | (with_reducible first | exact HB.out | apply below_alloc | apply pw_below_drewN | apply below_drew1) | exact HB.out))); (case aF => exact (fun k_ hk => (Nat.le_trans (below_size (by repeat (first | (with_reducible first | exact HB.out | apply below_alloc | apply pw_below_drewN | apply below_drew1) | exact HB.out))) hk))); (case aO => exact (by (with_reducible repeat (first | apply Kd.R_alloc | apply Kd.R_drewN | apply Kd.R_drew)); exact HO_5.out)); (case aS => exact (below_size (by repeat (first | (with_reducible first | exact HB.out | apply below_alloc | apply pw_below_drewN | apply below_drew1) | exact HB.out)))); (case aL => have := LMc18.out; omega); intro v464 w19 ho hb hg hat; rw [← Ny463.out] at ho; have n0_ := Aside0.mk (Kd.V_afterv (ok := (fun k_ => (P0_ k_ ∨ w.heap.size ≤ k_) ∧ some k_ ≠ (u3 : Value).ownBlock)) (by (with_reducible repeat (first | apply Kd.V_alloc | apply Kd.V_drewN | apply Kd.V_drew)); exact Kd.V_mono HO_0.out (fun _ hk => ⟨⟨hk.1, hk.2.1⟩, hk.2.2⟩)) hg hat); have n1_ := Aside0.mk (Kd.N_afterv (ok := (fun k_ => (P0_ k_ ∨ w.heap.size ≤ k_))) (by (with_reducible repeat (first | apply Kd.N_alloc | apply Kd.N_drewN | apply Kd.N_drew)); exact HO_3.out) hg hat); have n2_ := Aside0.mk (Kd.V_afterv (ok := (fun k_ => (P0_ k_ ∨ w.heap.size ≤ k_) ∧ some k_ ≠ (u3 : Value).ownBlock)) (by (with_reducible repeat (first | apply Kd.V_alloc | apply Kd.V_drewN | apply Kd.V_drew)); exact Kd.V_mono HL458_1.out (fun _ hk => ⟨⟨hk.1, hk.2.1⟩, hk.2.2⟩)) hg hat); have n3_ := Aside0.mk (Kd.V_afterv (ok := (fun k_ => (P0_ k_ ∨ w.heap.size ≤ k_) ∧ some k_ ≠ (u3 : Value).ownBlock)) (by (with_reducible repeat (first | apply Kd.V_alloc | apply Kd.V_drewN | apply Kd.V_drew)); exact Kd.V_mono HL458_2.out (fun _ hk => ⟨⟨hk.1, hk.2.1⟩, hk.2.2⟩)) hg hat); have n4_ := Aside0.mk (Kd.V_afterv (ok := (fun k_ => (P0_ k_ ∨ w.heap.size ≤ k_) ∧ some k_ ≠ (u3 : Value).ownBlock)) (by (with_reducible repeat (first | apply Kd.V_alloc | apply Kd.V_drewN | apply Kd.V_drew)); exact Kd.V_mono HL458_3.out (fun _ hk => ⟨⟨hk.1, hk.2.1⟩, hk.2.2⟩)) hg hat); have n5_ := Aside0.mk (Kd.V_afterv (ok := (fun k_ => (P0_ k_ ∨ w.heap.size ≤ k_) ∧ some k_ ≠ (u3 : Value).ownBlock)) (by (with_reducible repeat (first | apply Kd.V_alloc | apply Kd.V_drewN | apply Kd.V_drew)); exact Kd.V_mono HL462_1.out (fun _ hk => ⟨⟨hk.1, hk.2.1⟩, hk.2.2⟩)) hg hat); have n6_ := Aside0.mk (Kd.V_afterv (ok := (fun k_ => (P0_ k_ ∨ w.heap.size ≤ k_) ∧ some k_ ≠ (u3 : Value).ownBlock)) (by (with_reducible repeat (first | apply Kd.V_alloc | apply Kd.V_drewN | apply Kd.V_drew)); exact Kd.V_mono HL462_2.out (fun _ hk => ⟨⟨hk.1, hk.2.1⟩, hk.2.2⟩)) hg hat); have n7_ := Aside0.mk (Kd.V_afterv (ok := (fun k_ => (P0_ k_ ∨ w.heap.size ≤ k_) ∧ some k_ ≠ (u3 : Value).ownBlock)) (by (with_reducible repeat (first | apply Kd.V_alloc | apply Kd.V_drewN | apply Kd.V_drew)); exact Kd.V_mono HL462_3.out (fun _ hk => ⟨⟨hk.1, hk.2.1⟩, hk.2.2⟩)) hg hat); have n8_ := Aside0.mk (hb); have n9_ := Aside0.mk (ho); clear HO_0; clear HO_3; clear HL458_1; clear HL458_2; clear HL458_3; clear HL462_1; clear HL462_2; clear HL462_3; clear HB; clear HO_5; have HO_0 := n0_; have HO_3 := n1_; have HL458_1 := n2_; have HL458_2 := n3_; have HL458_3 := n4_; have HL462_1 := n5_; have HL462_2 := n6_; have HL462_3 := n7_; have HB := n8_; have HO465 := n9_; clear n0_ n1_ n2_ n3_ n4_ n5_ n6_ n7_ n8_ n9_; clear ho hb hg hat))
                        go_roundg k2
                        case measure => have := HK1.out; have := HK2.out; omega
                        case rel => exact ⟨(wrap64 (x4_2 + 1)), (y463), (by first | rfl | (simp; done) | (simp [*]; done)), H', ⟨by have := HK1.out; have := HK2.out; omega⟩, ⟨by (with_reducible repeat (first | apply Kd.V_alloc | apply Kd.V_drewN | apply Kd.V_drew)); exact Kd.V_mono HO_0.out (fun _ hk => ⟨hk.1.1, ⟨hk.1.2, hk.2⟩⟩)⟩, ⟨by (with_reducible repeat (first | apply Kd.N_alloc | apply Kd.N_drewN | apply Kd.N_drew)); exact HO_3.out⟩, ⟨by (with_reducible repeat (first | apply Kd.R_alloc | apply Kd.R_drewN | apply Kd.R_drew)); exact HO465.out⟩, ⟨by repeat (first | (with_reducible first | exact HB.out | apply below_alloc | apply pw_below_drewN | apply below_drew1) | exact HB.out)⟩⟩
                      · rw [if_neg c18] at H
                        exact absurd H (by simp)
                  · rw [if_neg c10] at H
                    exact absurd H (by simp)
                · rw [if_neg c9] at H
                  have c9b0 : decide (x4_2 < (l0.length : Int)) = false := decide_eq_false c9
                  clear c9
                  by_cases c20 : (x5_2.length : Int) > 0
                  · rw [if_pos c20] at H
                    have c20b0 : decide (0 < (x5_2.length : Int)) = true := decide_eq_true c20
                    have c20b1 : decide (0 < x5_2.length) = true := decide_eq_true (by omega)
                    clear c20
                    by_cases c21 : x3_1.length < 1759218604441
                    · rw [if_pos c21] at H
                      have LMc21 := Aside0.mk c21
                      clear c21
                      obtain ⟨y466, hy466⟩ : ∃ y_ : List (S27), y_ = (x3_1 ++ [(⟨false, x5_2, ([] : List ByteArray), ([] : List (List ByteArray))⟩ : S27)]) := ⟨_, rfl⟩
                      replace H : (sennitref07_Normal.l0 k2 l0 y466 x4_2) = some r := by first | (rw [hy466]; with_reducible exact H) | (have H2_ := (Option.bind_some _ _).symm.trans H; rw [hy466]; with_reducible exact H2_) | (have H2_ := (Option.bind_some _ _).symm.trans H; with_reducible exact H2_) | with_reducible exact H | (rw [hy466]; exact H) | exact H
                      have Ny466 := Aside0.mk hy466
                      clear hy466
                      have H' := Aside0.mk H
                      clear H
                      obtain ⟨Ao22, co22, eo22⟩ := Kd.R_slice HO_5.out
                      subst eo22
                      go_wp2_with (first | ((with_reducible refine gate_builtin (b := .append) (xs := #[.tmp 55, .tmp 58]) rfl ?_); at_builtin; refine Kd.N_append k27 (w0 := w) w.heap.size rfl (.tmp 55) (.tmp 58) 48 27 (.agg #[(.bool false), (.slice none 0 0), (.slice none 0 0), (.slice none 0 0)]) 80 rfl Try.underlying48 info27 rfl (by decide) (by omega) u3 x3_1 (⟨false, x5_2, ([] : List ByteArray), ([] : List (List ByteArray))⟩ : S27) [.bool false, .slice Ao22 x5_2.length co22, .slice none 0 0, .slice none 0 0] (fun k_ => (P0_ k_ ∨ w.heap.size ≤ k_)) (fun k_ => ((fun k_ => (P0_ k_ ∨ w.heap.size ≤ k_))) k_ ∧ some k_ ≠ (u3 : Value).ownBlock) rfl rfl ?aP (fun _ hk => hk) ?aF ?aO ?aB ?aS ?aL ?_; (case aP => exact (k27_mkF _ _ (⟨false, x5_2, ([] : List ByteArray), ([] : List (List ByteArray))⟩ : S27) (Kd.R_reads' (Kd.R_mono (ok' := (fun k_ => ((fun k_ => (P0_ k_ ∨ w.heap.size ≤ k_))) k_ ∧ some k_ ≠ (u3 : Value).ownBlock)) (Kd.R_apart' (HO_5.out) (Kd.N_typed HO_3.out) (by decide)) (fun k_ hk => ⟨(.inr (hk.1)), hk.2⟩))).2.1 (Kd.R_F (Kd.R_mono (ok' := (fun k_ => ((fun k_ => (P0_ k_ ∨ w.heap.size ≤ k_))) k_ ∧ some k_ ≠ (u3 : Value).ownBlock)) (Kd.R_apart' (HO_5.out) (Kd.N_typed HO_3.out) (by decide)) (fun k_ hk => ⟨(.inr (hk.1)), hk.2⟩))) (Nat.le_refl _) (Kd.F_nil _ _ _) (Nat.le_refl _) (Kd.F_nil _ _ _))); (case aB => exact (by repeat (first | (with_reducible first | exact HB.out | apply below_alloc | apply pw_below_drewN | apply below_drew1) | exact HB.out))); (case aF => exact (fun k_ hk => (.inr (Nat.le_trans (below_size (by repeat (first | (with_reducible first | exact HB.out | apply below_alloc | apply pw_below_drewN | apply below_drew1) | exact HB.out))) hk)))); (case aO => exact (by (with_reducible repeat (first | apply Kd.N_alloc | apply Kd.N_drewN | apply Kd.N_drew)); exact Kd.N_mono HO_3.out (fun _ hk => hk.1))); (case aS => exact (below_size (by repeat (first | (with_reducible first | exact HB.out | apply below_alloc | apply pw_below_drewN | apply below_drew1) | exact HB.out)))); (case aL => have := LMc21.out; omega); intro v467 w23 ho hb hg hat; rw [← Ny466.out] at ho; have n0_ := Aside0.mk (Kd.V_afterv (ok := (fun k_ => (P0_ k_ ∨ w.heap.size ≤ k_) ∧ some k_ ≠ (.slice Ao22 x5_2.length co22 : Value).ownBlock)) (by (with_reducible repeat (first | apply Kd.V_alloc | apply Kd.V_drewN | apply Kd.V_drew)); exact Kd.V_mono HO_0.out (fun _ hk => ⟨⟨hk.1, hk.2.2⟩, hk.2.1⟩)) hg hat); have n1_ := Aside0.mk (hb); have n2_ := Aside0.mk (ho); clear HO_0; clear HB; clear HO_3; clear HO_5; have HO_0 := n0_; have HB := n1_; have HO468 := n2_; clear n0_ n1_ n2_; clear ho hb hg hat))
                      go_roundg k2
                      case measure => have := HK1.out; have := HK2.out; omega
                      case rel => exact ⟨(y466), (x4_2), (by first | rfl | (simp; done) | (simp [*]; done)), H', ⟨by have := HK1.out; have := HK2.out; omega⟩, ⟨by (with_reducible repeat (first | apply Kd.V_alloc | apply Kd.V_drewN | apply Kd.V_drew)); exact Kd.V_mono HO_0.out (fun _ hk => ⟨hk.1.1, hk.2⟩)⟩, ⟨by (with_reducible repeat (first | apply Kd.N_alloc | apply Kd.N_drewN | apply Kd.N_drew)); exact HO468.out⟩, ⟨by repeat (first | (with_reducible first | exact HB.out | apply below_alloc | apply pw_below_drewN | apply below_drew1) | exact HB.out)⟩⟩
                    · rw [if_neg c21] at H
                      exact absurd H (by simp)
                  · rw [if_neg c20] at H
                    have c20b0 : decide (0 < (x5_2.length : Int)) = false := decide_eq_false c20
                    have c20b1 : decide (0 < x5_2.length) = false := decide_eq_false (by omega)
                    clear c20
                    have H' := Aside0.mk H
                    clear H
                    obtain ⟨Ao24, co24, eo24⟩ := Kd.R_slice HO_5.out
                    subst eo24
                    go_wp2
                    go_roundg k2
                    case measure => have := HK1.out; have := HK2.out; omega
                    case rel => exact ⟨(x3_1), (x4_2), (by first | rfl | (simp; done) | (simp [*]; done)), H', ⟨by have := HK1.out; have := HK2.out; omega⟩, ⟨by (with_reducible repeat (first | apply Kd.V_alloc | apply Kd.V_drewN | apply Kd.V_drew)); exact Kd.V_mono HO_0.out (fun _ hk => ⟨hk.1, hk.2.1⟩)⟩, ⟨by (with_reducible repeat (first | apply Kd.N_alloc | apply Kd.N_drewN | apply Kd.N_drew)); exact Kd.N_mono HO_3.out (fun _ hk => hk.1)⟩, ⟨by repeat (first | (with_reducible first | exact HB.out | apply below_alloc | apply pw_below_drewN | apply below_drew1) | exact HB.out)⟩⟩
        · rw [if_neg c3] at H
          exact absurd H (by simp)
      · rw [if_neg c2] at H
        have c2b0 : decide (x4_1 < (l0.length : Int)) = false := decide_eq_false c2
        clear c2
        obtain rfl := Option.some.inj H
        go_wp2
        go_ret
        exact ⟨_, by first | rfl | (simp [errW_none, errW_some] <;> rfl) | (simp [*, errW_none, errW_some] <;> rfl), by (with_reducible repeat (first | apply Kd.N_alloc | apply Kd.N_drewN | apply Kd.N_drew)); exact HO_3.out, by repeat (first | (with_reducible first | exact HB.out | apply below_alloc | apply pw_below_drewN | apply below_drew1) | exact HB.out)⟩

end Go.Proofs.Ytiaoppikdgoieaa.M
namespace Go.Proofs.Ytiaoppikdgoieaa.M
open Go.RowKit Go.Proofs.YtiaoppikdgoieaaW.PrintWords Go.Proofs.YtiaoppikdgoieaaW.PrintLast Go.Proofs.YtiaoppikdgoieaaW.PrintMore
attribute [local go_sem] max2_int min2_int max_two min_two max_three min_three max_four min_four
set_option linter.unusedVariables false
set_option linter.unusedSimpArgs false

/-! ### sennitref07_Choose: function 45 -/
mutual
def sennitref07_Choose.l0 : Nat → List (S27) → Int → List ByteArray → Int → Option (List ByteArray)
  | 0, _, _, _, _ => none
  | k + 1, x0, x1, x5, x6 => if x6 < (x0.length : Int) then (if 0 ≤ x6 then (if ((rd_T27 x0 x6).f0 = true) then (sennitref07_Choose.j1 k x0 x1 x5 x6) else (if x5.length + ((rd_T27 x0 x6).f1).length < 8796093022208 then (sennitref07_Choose.j1 k x0 x1 (x5 ++ ((rd_T27 x0 x6).f1)) x6) else (none))) else (none)) else (some x5)
def sennitref07_Choose.j1 : Nat → List (S27) → Int → List ByteArray → Int → Option (List ByteArray)
  | 0, _, _, _, _ => none
  | k + 1, x0, x1, x5, x6 => sennitref07_Choose.l1 k x0 x1 x5 x6 0
def sennitref07_Choose.l1 : Nat → List (S27) → Int → List ByteArray → Int → Int → Option (List ByteArray)
  | 0, _, _, _, _, _ => none
  | k + 1, x0, x1, x5, x6, x7 => if 0 ≤ x6 then (if x6 < (x0.length : Int) then (if (rd_T27 x0 x6).f0 = true then (sennitref07_Choose.j3 k x0 x1 x5 x6 x7 (decide (x7 < (((rd_T27 x0 x6).f3).length : Int)))) else (sennitref07_Choose.j3 k x0 x1 x5 x6 x7 false)) else (none)) else (none)
def sennitref07_Choose.j3 : Nat → List (S27) → Int → List ByteArray → Int → Int → Bool → Option (List ByteArray)
  | 0, _, _, _, _, _, _ => none
  | k + 1, x0, x1, x5, x6, x7, x41 => if x41 = true then (if x7 = (wrap64 (x1 - 1)) then (if 0 ≤ x6 then (if x6 < (x0.length : Int) then (if 0 ≤ x7 then (if x7 < (((rd_T27 x0 x6).f3).length : Int) then (if x5.length + (rd_L1 ((rd_T27 x0 x6).f3) x7).length < 8796093022208 then (sennitref07_Choose.l1 k x0 x1 (x5 ++ (rd_L1 ((rd_T27 x0 x6).f3) x7)) x6 (wrap64 (x7 + 1))) else (none)) else (none)) else (none)) else (none)) else (none)) else (sennitref07_Choose.l1 k x0 x1 x5 x6 (wrap64 (x7 + 1)))) else (sennitref07_Choose.l0 k x0 x1 x5 (wrap64 (x6 + 1)))
end
def sennitref07_Choose.f (k : Nat) (l0 : List (S27)) (a1 : Int) : Option (List ByteArray) := sennitref07_Choose.l0 k l0 a1 ([] : List ByteArray) 0
theorem sennitref07_Choose.mono_l : ∀ k, (∀ y0 y1 y2 y3, LeO (sennitref07_Choose.l0 k y0 y1 y2 y3) (sennitref07_Choose.l0 (k + 1) y0 y1 y2 y3)) ∧ (∀ y0 y1 y2 y3, LeO (sennitref07_Choose.j1 k y0 y1 y2 y3) (sennitref07_Choose.j1 (k + 1) y0 y1 y2 y3)) ∧ (∀ y0 y1 y2 y3 y4, LeO (sennitref07_Choose.l1 k y0 y1 y2 y3 y4) (sennitref07_Choose.l1 (k + 1) y0 y1 y2 y3 y4)) ∧ (∀ y0 y1 y2 y3 y4 y5, LeO (sennitref07_Choose.j3 k y0 y1 y2 y3 y4 y5) (sennitref07_Choose.j3 (k + 1) y0 y1 y2 y3 y4 y5))
  | 0 => ⟨fun _ _ _ _ r h => by simp [sennitref07_Choose.l0] at h, fun _ _ _ _ r h => by simp [sennitref07_Choose.j1] at h, fun _ _ _ _ _ r h => by simp [sennitref07_Choose.l1] at h, fun _ _ _ _ _ _ r h => by simp [sennitref07_Choose.j3] at h⟩
  | k + 1 => by
    obtain ⟨ih0, ih1, ih2, ih3⟩ := sennitref07_Choose.mono_l k
    refine ⟨?_, ?_, ?_, ?_⟩
    · intro y0 y1 y2 y3
      unfold sennitref07_Choose.l0
      repeat' first
      | (with_reducible exact ih0 _ _ _ _)
      | (with_reducible exact ih1 _ _ _ _)
      | (with_reducible exact ih2 _ _ _ _ _)
      | (with_reducible exact ih3 _ _ _ _ _ _)
      | (with_reducible exact LeO.refl _)
      | (with_reducible exact LeO.none _)
      | (with_reducible refine LeO.ite ?_ ?_)
      | (with_reducible refine LeO.bind ?_ (fun _ => ?_))
      | exact ih0 _ _ _ _
      | exact ih1 _ _ _ _
      | exact ih2 _ _ _ _ _
      | exact ih3 _ _ _ _ _ _
      | exact LeO.none _
      | refine LeO.ite ?_ ?_
      | refine LeO.bind ?_ (fun _ => ?_)
    · intro y0 y1 y2 y3
      unfold sennitref07_Choose.j1
      repeat' first
      | (with_reducible exact ih0 _ _ _ _)
      | (with_reducible exact ih1 _ _ _ _)
      | (with_reducible exact ih2 _ _ _ _ _)
      | (with_reducible exact ih3 _ _ _ _ _ _)
      | (with_reducible exact LeO.refl _)
      | (with_reducible exact LeO.none _)
      | (with_reducible refine LeO.ite ?_ ?_)
      | (with_reducible refine LeO.bind ?_ (fun _ => ?_))
      | exact ih0 _ _ _ _
      | exact ih1 _ _ _ _
      | exact ih2 _ _ _ _ _
      | exact ih3 _ _ _ _ _ _
      | exact LeO.none _
      | refine LeO.ite ?_ ?_
      | refine LeO.bind ?_ (fun _ => ?_)
    · intro y0 y1 y2 y3 y4
      unfold sennitref07_Choose.l1
      repeat' first
      | (with_reducible exact ih0 _ _ _ _)
      | (with_reducible exact ih1 _ _ _ _)
      | (with_reducible exact ih2 _ _ _ _ _)
      | (with_reducible exact ih3 _ _ _ _ _ _)
      | (with_reducible exact LeO.refl _)
      | (with_reducible exact LeO.none _)
      | (with_reducible refine LeO.ite ?_ ?_)
      | (with_reducible refine LeO.bind ?_ (fun _ => ?_))
      | exact ih0 _ _ _ _
      | exact ih1 _ _ _ _
      | exact ih2 _ _ _ _ _
      | exact ih3 _ _ _ _ _ _
      | exact LeO.none _
      | refine LeO.ite ?_ ?_
      | refine LeO.bind ?_ (fun _ => ?_)
    · intro y0 y1 y2 y3 y4 y5
      unfold sennitref07_Choose.j3
      repeat' first
      | (with_reducible exact ih0 _ _ _ _)
      | (with_reducible exact ih1 _ _ _ _)
      | (with_reducible exact ih2 _ _ _ _ _)
      | (with_reducible exact ih3 _ _ _ _ _ _)
      | (with_reducible exact LeO.refl _)
      | (with_reducible exact LeO.none _)
      | (with_reducible refine LeO.ite ?_ ?_)
      | (with_reducible refine LeO.bind ?_ (fun _ => ?_))
      | exact ih0 _ _ _ _
      | exact ih1 _ _ _ _
      | exact ih2 _ _ _ _ _
      | exact ih3 _ _ _ _ _ _
      | exact LeO.none _
      | refine LeO.ite ?_ ?_
      | refine LeO.bind ?_ (fun _ => ?_)
theorem sennitref07_Choose.mono : ∀ a0 a1 k, LeO (sennitref07_Choose.f k a0 a1) (sennitref07_Choose.f (k + 1) a0 a1) := by
  intro a0 a1 k
  obtain ⟨ih0, ih1, ih2, ih3⟩ := sennitref07_Choose.mono_l k
  unfold sennitref07_Choose.f
  repeat' first
      | (with_reducible exact ih0 _ _ _ _)
      | (with_reducible exact ih1 _ _ _ _)
      | (with_reducible exact ih2 _ _ _ _ _)
      | (with_reducible exact ih3 _ _ _ _ _ _)
      | (with_reducible exact LeO.refl _)
      | (with_reducible exact LeO.none _)
      | (with_reducible refine LeO.ite ?_ ?_)
      | (with_reducible refine LeO.bind ?_ (fun _ => ?_))
      | exact ih0 _ _ _ _
      | exact ih1 _ _ _ _
      | exact ih2 _ _ _ _ _
      | exact ih3 _ _ _ _ _ _
      | exact LeO.none _
      | refine LeO.ite ?_ ?_
      | refine LeO.bind ?_ (fun _ => ?_)
set_option maxHeartbeats 8000000 in
set_option maxRecDepth 100000 in
theorem sennitref07_Choose.calls (k : Nat) (A0 : Option Addr) (c0 : Nat) (l0 : List (S27)) (a1 : Int) (r : List ByteArray) (w : World) (hr0 : Kd.C k27 w A0 l0.length l0) (hc0 : l0.length ≤ c0) (h : sennitref07_Choose.f k l0 a1 = some r) :
    Calls Try.prog 45 #[.slice A0 l0.length c0, .int .i64 a1] w fun e w' => ∃ v0_ : Value, e = .returned (v0_) ∧ Kd.R Kd.string 9 w' w.heap.size (fun _ => True) v0_ r ∧ Below w.heap.size w w' := by
  have HR0 := Aside0.mk hr0
  have HC0 := Aside0.mk hc0
  clear hr0 hc0
  have HB := Aside0.mk (Below.refl w.heap.size w)
  have H : (sennitref07_Choose.l0 k l0 a1 ([] : List ByteArray) 0) = some r := h
  clear h
  have H' := Aside0.mk H
  clear H
  go_enter Try.func45, Try.ntmps45
  go_wp2
  go_loopg [5, 6] k (fun kq v5 v6 w' => ∃ (x5_1 : List ByteArray) (x6_1 : Int), v6 = .int .i64 x6_1 ∧ Aside0 (sennitref07_Choose.l0 kq l0 a1 x5_1 x6_1 = some r) ∧ Aside0 (kq ≤ k) ∧ Aside0 (Kd.R Kd.string 9 w' w.heap.size (fun _ => True) v5 x5_1) ∧ Aside0 (Below w.heap.size w w'))
  case atStart => exact ⟨(([] : List ByteArray)), (0), (by first | rfl | (simp; done) | (simp [*]; done)), H', ⟨Nat.le_refl _⟩, ⟨by first | exact Kd.R_nil _ _ _ _ _ | exact Kd.N_nil _ _ _ _ _ | exact Kd.V_nil _ _ _ _ _ | exact Kd.Q_nil _ _ _ _ _ | exact Kd.S_nil _ _ _ _ _⟩, ⟨by repeat (first | (with_reducible first | exact HB.out | apply below_alloc | apply pw_below_drewN | apply below_drew1) | exact HB.out)⟩⟩
  case round =>
    clear H'
    try clear p2
    obtain ⟨x5_1, x6_1, rfl, HA, HK1, HO_5, HB⟩ := hrel
    cases gk with
    | zero => exact absurd HA.out (by simp [sennitref07_Choose.l0])
    | succ k1 =>
      have H := HA.out
      clear HA
      simp only [sennitref07_Choose.l0] at H
      by_cases c3 : x6_1 < (l0.length : Int)
      · rw [if_pos c3] at H
        have c3b0 : decide (x6_1 < (l0.length : Int)) = true := decide_eq_true c3
        clear c3
        by_cases c4 : 0 ≤ x6_1
        · rw [if_pos c4] at H
          have c4b0 : decide (0 ≤ x6_1) = true := decide_eq_true c4
          clear c4
          have HC5 := Aside0.mk H
          clear H
          have p618 : 0 ≤ (x6_1 : Int) := of_decide_eq_true (by first | (with_reducible assumption) | assumption)
          have q618 : x6_1 < (l0.length : Int) := of_decide_eq_true (by first | (with_reducible assumption) | assumption)
          obtain ⟨ad618, A618_1, c618_1, A618_2, c618_2, A618_3, c618_3, e618, hx618_0, hx618_1, hx618_2, hx618_3, hl618_1, hi618_1, hl618_2, hi618_2, hl618_3, hi618_3⟩ := at_T27 HR0.out x6_1 p618 q618
          cases e618
          replace hx618_0 := (HB.out.cell (World.block_lt_of_cell? w _ hx618_0)).trans hx618_0
          replace hx618_1 := (HB.out.cell (World.block_lt_of_cell? w _ hx618_1)).trans hx618_1
          replace hx618_2 := (HB.out.cell (World.block_lt_of_cell? w _ hx618_2)).trans hx618_2
          replace hx618_3 := (HB.out.cell (World.block_lt_of_cell? w _ hx618_3)).trans hx618_3
          have HR618_1 := Aside0.mk hi618_1
          have HC618_1 := Aside0.mk hl618_1
          clear hi618_1 hl618_1
          have HR618_2 := Aside0.mk hi618_2
          have HC618_2 := Aside0.mk hl618_2
          clear hi618_2 hl618_2
          have HR618_3 := Aside0.mk hi618_3
          have HC618_3 := Aside0.mk hl618_3
          clear hi618_3 hl618_3
          replace p618 := eq_true p618
          replace q618 := eq_true q618
          go_upto_if 19 with (fail)
          go_cut [5] (fun v5 wc => ∃ (kq : Nat) (x5_4 : List ByteArray), Aside0 (sennitref07_Choose.j1 kq l0 a1 x5_4 x6_1 = some r) ∧ Aside0 (kq ≤ k1) ∧ Aside0 (Kd.R Kd.string 9 wc w.heap.size (fun _ => True) v5 x5_4) ∧ Aside0 (Below w.heap.size w wc))
          case first =>
            have H := HC5.out
            clear HC5
            obtain ⟨bq6, hbq6⟩ : ∃ b_ : Bool, b_ = ((rd_T27 l0 x6_1).f0) := ⟨_, rfl⟩
            replace H : (if (bq6 = true) then (sennitref07_Choose.j1 k1 l0 a1 x5_1 x6_1) else (if x5_1.length + ((rd_T27 l0 x6_1).f1).length < 8796093022208 then (sennitref07_Choose.j1 k1 l0 a1 (x5_1 ++ ((rd_T27 l0 x6_1).f1)) x6_1) else (none))) = some r := by rw [← hbq6] at H; exact H
            have Nbq6 := Aside0.mk hbq6
            clear hbq6
            (try rw [← Nbq6.out])
            by_cases c7 : (bq6 = true)
            · subst c7
              have H1 : (sennitref07_Choose.j1 k1 l0 a1 x5_1 x6_1) = some r := by rw [if_pos rfl] at H; exact H
              clear H
              have H := H1
              clear H1
              have H' := Aside0.mk H
              clear H
              go_wp2
              go_meet
              case rel => exact ⟨_, (x5_1), H', ⟨by have := HK1.out; first | omega | exact Nat.le_refl _⟩, ⟨by (with_reducible repeat (first | apply Kd.R_alloc | apply Kd.R_drewN | apply Kd.R_drew)); exact HO_5.out⟩, ⟨by repeat (first | (with_reducible first | exact HB.out | apply below_alloc | apply pw_below_drewN | apply below_drew1) | exact HB.out)⟩⟩
            · replace c7 := Bool.eq_false_iff.mpr c7
              subst c7
              have H1 : (if x5_1.length + ((rd_T27 l0 x6_1).f1).length < 8796093022208 then (sennitref07_Choose.j1 k1 l0 a1 (x5_1 ++ ((rd_T27 l0 x6_1).f1)) x6_1) else (none)) = some r := by rw [if_neg (show ¬ (false = true) by decide)] at H; exact H
              clear H
              have H := H1
              clear H1
              by_cases c8 : x5_1.length + ((rd_T27 l0 x6_1).f1).length < 8796093022208
              · rw [if_pos c8] at H
                have LMc8 := Aside0.mk c8
                clear c8
                obtain ⟨y620, hy620⟩ : ∃ y_ : List ByteArray, y_ = (x5_1 ++ ((rd_T27 l0 x6_1).f1)) := ⟨_, rfl⟩
                replace H : (sennitref07_Choose.j1 k1 l0 a1 y620 x6_1) = some r := by first | (rw [hy620]; with_reducible exact H) | (have H2_ := (Option.bind_some _ _).symm.trans H; rw [hy620]; with_reducible exact H2_) | (have H2_ := (Option.bind_some _ _).symm.trans H; with_reducible exact H2_) | with_reducible exact H | (rw [hy620]; exact H) | exact H
                have Ny620 := Aside0.mk hy620
                clear hy620
                have H' := Aside0.mk H
                clear H
                have p619 : 0 ≤ (x6_1 : Int) := of_decide_eq_true (by first | (with_reducible assumption) | assumption)
                have q619 : x6_1 < (l0.length : Int) := of_decide_eq_true (by first | (with_reducible assumption) | assumption)
                obtain ⟨ad619, A619_1, c619_1, A619_2, c619_2, A619_3, c619_3, e619, hx619_0, hx619_1, hx619_2, hx619_3, hl619_1, hi619_1, hl619_2, hi619_2, hl619_3, hi619_3⟩ := at_T27 HR0.out x6_1 p619 q619
                (try rw [← Nbq6.out] at hx619_0)
                obtain rfl : ad618 = ad619 := (by injection e619)
                replace hx619_0 := (HB.out.cell (World.block_lt_of_cell? w _ hx619_0)).trans hx619_0
                replace hx619_1 := (HB.out.cell (World.block_lt_of_cell? w _ hx619_1)).trans hx619_1
                replace hx619_2 := (HB.out.cell (World.block_lt_of_cell? w _ hx619_2)).trans hx619_2
                replace hx619_3 := (HB.out.cell (World.block_lt_of_cell? w _ hx619_3)).trans hx619_3
                try (have ea_ := Option.some.inj (hx618_1.symm.trans hx619_1); injection ea_ with ea_ en_ ec_; subst ea_; subst ec_; clear en_)
                try (have ea_ := Option.some.inj (hx618_2.symm.trans hx619_2); injection ea_ with ea_ en_ ec_; subst ea_; subst ec_; clear en_)
                try (have ea_ := Option.some.inj (hx618_3.symm.trans hx619_3); injection ea_ with ea_ en_ ec_; subst ea_; subst ec_; clear en_)
                have HR619_1 := Aside0.mk hi619_1
                have HC619_1 := Aside0.mk hl619_1
                clear hi619_1 hl619_1
                have HR619_2 := Aside0.mk hi619_2
                have HC619_2 := Aside0.mk hl619_2
                clear hi619_2 hl619_2
                have HR619_3 := Aside0.mk hi619_3
                have HC619_3 := Aside0.mk hl619_3
                clear hi619_3 hl619_3
                replace p619 := eq_true p619
                replace q619 := eq_true q619
                go_wp2_with (first | ((with_reducible refine gate_builtin (b := .append) (xs := #[.tmp 20, .tmp 25]) rfl ?_); (try (refine gate_guard (by rfl) ?_; dsimp only)); at_builtin; refine Kd.R_append_rows Kd.string (w0 := w) w.heap.size rfl (.tmp 20) (.tmp 25) 22 9 (.string ⟨#[]⟩) 16 rfl Try.underlying22 info9 rfl (by decide) (by omega) u5 x5_1 ((rd_T27 l0 x6_1).f1) _ _ _ (fun _ => True) (fun _ => False) rfl rfl ?aO ?aR (fun _ _ h => h) (fun _ h => h.elim) ?aF ?aB ?aS ?aL ?_; (case aR => repeat (first | exact (Kd.C_below HR619_1.out HB.out) | (with_reducible refine Kd.C_alloc ?_ _) | (with_reducible refine Kd.C_drewN ?_ _) | (with_reducible refine Kd.C_drew ?_))); (case aB => exact (by repeat (first | (with_reducible first | exact HB.out | apply below_alloc | apply pw_below_drewN | apply below_drew1) | exact HB.out))); (case aF => exact (fun _ _ => trivial)); (case aO => exact (by (with_reducible repeat (first | apply Kd.R_alloc | apply Kd.R_drewN | apply Kd.R_drew)); exact HO_5.out)); (case aS => exact (below_size (by repeat (first | (with_reducible first | exact HB.out | apply below_alloc | apply pw_below_drewN | apply below_drew1) | exact HB.out)))); (case aL => have := LMc8.out; omega); intro v621 w9 ho hb hg hat; rw [← Ny620.out] at ho; have n0_ := Aside0.mk (hb); have n1_ := Aside0.mk (ho); clear HB; clear HO_5; have HB := n0_; have HO622 := n1_; clear n0_ n1_; clear ho hb hg hat))
                go_meet
                case rel => exact ⟨_, (y620), H', ⟨by have := HK1.out; first | omega | exact Nat.le_refl _⟩, ⟨by (with_reducible repeat (first | apply Kd.R_alloc | apply Kd.R_drewN | apply Kd.R_drew)); exact HO622.out⟩, ⟨by repeat (first | (with_reducible first | exact HB.out | apply below_alloc | apply pw_below_drewN | apply below_drew1) | exact HB.out)⟩⟩
              · rw [if_neg c8] at H
                exact absurd H (by simp)
          case rest =>
            clear HC5
            try clear p2
            try clear c3
            try clear c3b0
            try clear c4
            try clear c4b0
            try clear c6
            try clear p6
            try clear q6
            try clear hx6
            try clear c7
            try clear c8
            try clear hx618_0
            try clear hx618_1
            try clear hx618_2
            try clear hx618_3
            try clear hx619_0
            try clear hx619_1
            try clear hx619_2
            try clear hx619_3
            try clear p2
            try clear p618
            try clear p619
            try clear q618
            try clear q619
            obtain ⟨kq, x5_4, HA, HJ4, HO_5, HB⟩ := hcut
            cases kq with
            | zero => exact absurd HA.out (by simp [sennitref07_Choose.j1])
            | succ kj4 =>
              have H := HA.out
              clear HA
              simp only [sennitref07_Choose.j1] at H
              have H' := Aside0.mk H
              clear H
              go_wp2
              go_loopg [5, 7] kj4 (fun kq v5 v7 w' => ∃ (x5_3 : List ByteArray) (x7_3 : Int), v7 = .int .i64 x7_3 ∧ Aside0 (sennitref07_Choose.l1 kq l0 a1 x5_3 x6_1 x7_3 = some r) ∧ Aside0 (kq ≤ kj4) ∧ Aside0 (Kd.R Kd.string 9 w' w.heap.size (fun _ => True) v5 x5_3) ∧ Aside0 (Below w.heap.size w w'))
              case atStart => exact ⟨(x5_4), (0), (by first | rfl | (simp; done) | (simp [*]; done)), H', ⟨Nat.le_refl _⟩, ⟨by (with_reducible repeat (first | apply Kd.R_alloc | apply Kd.R_drewN | apply Kd.R_drew)); exact HO_5.out⟩, ⟨by repeat (first | (with_reducible first | exact HB.out | apply below_alloc | apply pw_below_drewN | apply below_drew1) | exact HB.out)⟩⟩
              case round =>
                clear H'
                try clear p2
                try clear c3
                try clear c3b0
                try clear c4
                try clear c4b0
                try clear c6
                try clear p6
                try clear q6
                try clear hx6
                try clear c7
                try clear c8
                try clear hx618_0
                try clear hx618_1
                try clear hx618_2
                try clear hx618_3
                try clear hx619_0
                try clear hx619_1
                try clear hx619_2
                try clear hx619_3
                try clear p2
                try clear p6
                try clear p618
                try clear p619
                try clear q6
                try clear q618
                try clear q619
                obtain ⟨x5_3, x7_3, rfl, HA, HK3, HO_5, HB⟩ := hrel
                cases gk with
                | zero => exact absurd HA.out (by simp [sennitref07_Choose.l1])
                | succ k3 =>
                  have H := HA.out
                  clear HA
                  simp only [sennitref07_Choose.l1] at H
                  have HC10 := Aside0.mk H
                  clear H
                  go_upto_region 8 with (fail)
                  go_cut [41] (fun v41 wc => ∃ (kq : Nat) (x41_9 : Bool), v41 = .bool x41_9 ∧ Aside0 (sennitref07_Choose.j3 kq l0 a1 x5_3 x6_1 x7_3 x41_9 = some r) ∧ Aside0 (kq ≤ k3) ∧ Aside0 (Kd.R Kd.string 9 wc w.heap.size (fun _ => True) u5 x5_3) ∧ Aside0 (Below w.heap.size w wc))
                  case first =>
                    have H := HC10.out
                    clear HC10
                    by_cases c11 : 0 ≤ x6_1
                    · rw [if_pos c11] at H
                      have c11b0 : decide (0 ≤ x6_1) = true := decide_eq_true c11
                      clear c11
                      (first | rw [c11b0] | (simp only [i64_w, i32_w]; rw [c11b0]) | skip)
                      by_cases c12 : x6_1 < (l0.length : Int)
                      · rw [if_pos c12] at H
                        have c12b0 : decide (x6_1 < (l0.length : Int)) = true := decide_eq_true c12
                        clear c12
                        obtain ⟨bq13, hbq13⟩ : ∃ b_ : Bool, b_ = ((rd_T27 l0 x6_1).f0) := ⟨_, rfl⟩
                        replace H : (if bq13 = true then (sennitref07_Choose.j3 k3 l0 a1 x5_3 x6_1 x7_3 (decide (x7_3 < (((rd_T27 l0 x6_1).f3).length : Int)))) else (sennitref07_Choose.j3 k3 l0 a1 x5_3 x6_1 x7_3 false)) = some r := by rw [← hbq13] at H; exact H
                        have Nbq13 := Aside0.mk hbq13
                        clear hbq13
                        by_cases c14 : bq13 = true
                        · subst c14
                          have H1 : (sennitref07_Choose.j3 k3 l0 a1 x5_3 x6_1 x7_3 (decide (x7_3 < (((rd_T27 l0 x6_1).f3).length : Int)))) = some r := by rw [if_pos rfl] at H; exact H
                          clear H
                          have H := H1
                          clear H1
                          have H' := Aside0.mk H
                          clear H
                          have p623 : 0 ≤ (x6_1 : Int) := of_decide_eq_true (by first | (with_reducible assumption) | assumption)
                          have q623 : x6_1 < (l0.length : Int) := of_decide_eq_true (by first | (with_reducible assumption) | assumption)
                          obtain ⟨ad623, A623_1, c623_1, A623_2, c623_2, A623_3, c623_3, e623, hx623_0, hx623_1, hx623_2, hx623_3, hl623_1, hi623_1, hl623_2, hi623_2, hl623_3, hi623_3⟩ := at_T27 HR0.out x6_1 p623 q623
                          (try rw [← Nbq13.out] at hx623_0)
                          obtain rfl : ad618 = ad623 := (by injection e623)
                          replace hx623_0 := (HB.out.cell (World.block_lt_of_cell? w _ hx623_0)).trans hx623_0
                          replace hx623_1 := (HB.out.cell (World.block_lt_of_cell? w _ hx623_1)).trans hx623_1
                          replace hx623_2 := (HB.out.cell (World.block_lt_of_cell? w _ hx623_2)).trans hx623_2
                          replace hx623_3 := (HB.out.cell (World.block_lt_of_cell? w _ hx623_3)).trans hx623_3
                          try (have ea_ := Option.some.inj (hx618_1.symm.trans hx623_1); injection ea_ with ea_ en_ ec_; subst ea_; subst ec_; clear en_)
                          try (have ea_ := Option.some.inj (hx618_2.symm.trans hx623_2); injection ea_ with ea_ en_ ec_; subst ea_; subst ec_; clear en_)
                          try (have ea_ := Option.some.inj (hx618_3.symm.trans hx623_3); injection ea_ with ea_ en_ ec_; subst ea_; subst ec_; clear en_)
                          have HR623_1 := Aside0.mk hi623_1
                          have HC623_1 := Aside0.mk hl623_1
                          clear hi623_1 hl623_1
                          have HR623_2 := Aside0.mk hi623_2
                          have HC623_2 := Aside0.mk hl623_2
                          clear hi623_2 hl623_2
                          have HR623_3 := Aside0.mk hi623_3
                          have HC623_3 := Aside0.mk hl623_3
                          clear hi623_3 hl623_3
                          replace p623 := eq_true p623
                          replace q623 := eq_true q623
                          have p624 : 0 ≤ (x6_1 : Int) := of_decide_eq_true (by first | (with_reducible assumption) | assumption)
                          have q624 : x6_1 < (l0.length : Int) := of_decide_eq_true (by first | (with_reducible assumption) | assumption)
                          obtain ⟨ad624, A624_1, c624_1, A624_2, c624_2, A624_3, c624_3, e624, hx624_0, hx624_1, hx624_2, hx624_3, hl624_1, hi624_1, hl624_2, hi624_2, hl624_3, hi624_3⟩ := at_T27 HR0.out x6_1 p624 q624
                          (try rw [← Nbq13.out] at hx624_0)
                          obtain rfl : ad618 = ad624 := (by injection e624)
                          replace hx624_0 := (HB.out.cell (World.block_lt_of_cell? w _ hx624_0)).trans hx624_0
                          replace hx624_1 := (HB.out.cell (World.block_lt_of_cell? w _ hx624_1)).trans hx624_1
                          replace hx624_2 := (HB.out.cell (World.block_lt_of_cell? w _ hx624_2)).trans hx624_2
                          replace hx624_3 := (HB.out.cell (World.block_lt_of_cell? w _ hx624_3)).trans hx624_3
                          try (have ea_ := Option.some.inj (hx618_1.symm.trans hx624_1); injection ea_ with ea_ en_ ec_; subst ea_; subst ec_; clear en_)
                          try (have ea_ := Option.some.inj (hx618_2.symm.trans hx624_2); injection ea_ with ea_ en_ ec_; subst ea_; subst ec_; clear en_)
                          try (have ea_ := Option.some.inj (hx618_3.symm.trans hx624_3); injection ea_ with ea_ en_ ec_; subst ea_; subst ec_; clear en_)
                          have HR624_1 := Aside0.mk hi624_1
                          have HC624_1 := Aside0.mk hl624_1
                          clear hi624_1 hl624_1
                          have HR624_2 := Aside0.mk hi624_2
                          have HC624_2 := Aside0.mk hl624_2
                          clear hi624_2 hl624_2
                          have HR624_3 := Aside0.mk hi624_3
                          have HC624_3 := Aside0.mk hl624_3
                          clear hi624_3 hl624_3
                          replace p624 := eq_true p624
                          replace q624 := eq_true q624
                          have ea_ := Option.some.inj (hx623_1.symm.trans hx624_1)
                          injection ea_ with ea_ en_ ec_
                          subst ea_
                          subst ec_
                          clear en_
                          have ea_ := Option.some.inj (hx623_2.symm.trans hx624_2)
                          injection ea_ with ea_ en_ ec_
                          subst ea_
                          subst ec_
                          clear en_
                          have ea_ := Option.some.inj (hx623_3.symm.trans hx624_3)
                          injection ea_ with ea_ en_ ec_
                          subst ea_
                          subst ec_
                          clear en_
                          go_wp2
                          go_meet
                          case rel => exact ⟨_, (decide (x7_3 < (((rd_T27 l0 x6_1).f3).length : Int))), (by first | rfl | (simp; done) | (simp [*]; done)), H', ⟨by have := HK1.out; have := HJ4.out; have := HK3.out; first | omega | exact Nat.le_refl _⟩, ⟨by (with_reducible repeat (first | apply Kd.R_alloc | apply Kd.R_drewN | apply Kd.R_drew)); exact HO_5.out⟩, ⟨by repeat (first | (with_reducible first | exact HB.out | apply below_alloc | apply pw_below_drewN | apply below_drew1) | exact HB.out)⟩⟩
                        · replace c14 := Bool.eq_false_iff.mpr c14
                          subst c14
                          have H1 : (sennitref07_Choose.j3 k3 l0 a1 x5_3 x6_1 x7_3 false) = some r := by rw [if_neg (show ¬ (false = true) by decide)] at H; exact H
                          clear H
                          have H := H1
                          clear H1
                          have H' := Aside0.mk H
                          clear H
                          have p623 : 0 ≤ (x6_1 : Int) := of_decide_eq_true (by first | (with_reducible assumption) | assumption)
                          have q623 : x6_1 < (l0.length : Int) := of_decide_eq_true (by first | (with_reducible assumption) | assumption)
                          obtain ⟨ad623, A623_1, c623_1, A623_2, c623_2, A623_3, c623_3, e623, hx623_0, hx623_1, hx623_2, hx623_3, hl623_1, hi623_1, hl623_2, hi623_2, hl623_3, hi623_3⟩ := at_T27 HR0.out x6_1 p623 q623
                          (try rw [← Nbq13.out] at hx623_0)
                          obtain rfl : ad618 = ad623 := (by injection e623)
                          replace hx623_0 := (HB.out.cell (World.block_lt_of_cell? w _ hx623_0)).trans hx623_0
                          replace hx623_1 := (HB.out.cell (World.block_lt_of_cell? w _ hx623_1)).trans hx623_1
                          replace hx623_2 := (HB.out.cell (World.block_lt_of_cell? w _ hx623_2)).trans hx623_2
                          replace hx623_3 := (HB.out.cell (World.block_lt_of_cell? w _ hx623_3)).trans hx623_3
                          try (have ea_ := Option.some.inj (hx618_1.symm.trans hx623_1); injection ea_ with ea_ en_ ec_; subst ea_; subst ec_; clear en_)
                          try (have ea_ := Option.some.inj (hx618_2.symm.trans hx623_2); injection ea_ with ea_ en_ ec_; subst ea_; subst ec_; clear en_)
                          try (have ea_ := Option.some.inj (hx618_3.symm.trans hx623_3); injection ea_ with ea_ en_ ec_; subst ea_; subst ec_; clear en_)
                          have HR623_1 := Aside0.mk hi623_1
                          have HC623_1 := Aside0.mk hl623_1
                          clear hi623_1 hl623_1
                          have HR623_2 := Aside0.mk hi623_2
                          have HC623_2 := Aside0.mk hl623_2
                          clear hi623_2 hl623_2
                          have HR623_3 := Aside0.mk hi623_3
                          have HC623_3 := Aside0.mk hl623_3
                          clear hi623_3 hl623_3
                          replace p623 := eq_true p623
                          replace q623 := eq_true q623
                          go_wp2
                          go_meet
                          case rel => exact ⟨_, (false), (by first | rfl | (simp; done) | (simp [*]; done)), H', ⟨by have := HK1.out; have := HJ4.out; have := HK3.out; first | omega | exact Nat.le_refl _⟩, ⟨by (with_reducible repeat (first | apply Kd.R_alloc | apply Kd.R_drewN | apply Kd.R_drew)); exact HO_5.out⟩, ⟨by repeat (first | (with_reducible first | exact HB.out | apply below_alloc | apply pw_below_drewN | apply below_drew1) | exact HB.out)⟩⟩
                      · rw [if_neg c12] at H
                        exact absurd H (by simp)
                    · rw [if_neg c11] at H
                      exact absurd H (by simp)
                  case rest =>
                    clear HC10
                    try clear c1
                    try clear q1
                    try clear p2
                    try clear c3
                    try clear c3b0
                    try clear c4
                    try clear c4b0
                    try clear c6
                    try clear p6
                    try clear q6
                    try clear hx6
                    try clear c7
                    try clear c8
                    try clear c11
                    try clear c11b0
                    try clear c12
                    try clear c12b0
                    try clear q13
                    try clear c14
                    try clear hx618_0
                    try clear hx618_1
                    try clear hx618_2
                    try clear hx618_3
                    try clear hx619_0
                    try clear hx619_1
                    try clear hx619_2
                    try clear hx619_3
                    try clear hx623_0
                    try clear hx623_1
                    try clear hx623_2
                    try clear hx623_3
                    try clear hx624_0
                    try clear hx624_1
                    try clear hx624_2
                    try clear hx624_3
                    try clear p2
                    try clear p6
                    try clear p618
                    try clear p619
                    try clear p623
                    try clear p624
                    try clear q6
                    try clear q618
                    try clear q619
                    try clear q623
                    try clear q624
                    obtain ⟨kq, x41_9, rfl, HA, HJ9, HO_5, HB⟩ := hcut
                    cases kq with
                    | zero => exact absurd HA.out (by simp [sennitref07_Choose.j3])
                    | succ kj9 =>
                      have H := HA.out
                      clear HA
                      simp only [sennitref07_Choose.j3] at H
                      by_cases c15 : x41_9 = true
                      · subst c15
                        have H1 : (if x7_3 = (wrap64 (a1 - 1)) then (if 0 ≤ x6_1 then (if x6_1 < (l0.length : Int) then (if 0 ≤ x7_3 then (if x7_3 < (((rd_T27 l0 x6_1).f3).length : Int) then (if x5_3.length + (rd_L1 ((rd_T27 l0 x6_1).f3) x7_3).length < 8796093022208 then (sennitref07_Choose.l1 kj9 l0 a1 (x5_3 ++ (rd_L1 ((rd_T27 l0 x6_1).f3) x7_3)) x6_1 (wrap64 (x7_3 + 1))) else (none)) else (none)) else (none)) else (none)) else (none)) else (sennitref07_Choose.l1 kj9 l0 a1 x5_3 x6_1 (wrap64 (x7_3 + 1)))) = some r := by rw [if_pos rfl] at H; exact H
                        clear H
                        have H := H1
                        clear H1
                        by_cases c16 : x7_3 = (wrap64 (a1 - 1))
                        · rw [if_pos c16] at H
                          have c16b0 : (x7_3 == (wrap64 (a1 - 1))) = true := beq_iff_eq.mpr c16
                          have c16b1 : (x7_3 != (wrap64 (a1 - 1))) = false := bne_eq_false_iff_eq.mpr c16
                          clear c16
                          by_cases c17 : 0 ≤ x6_1
                          · rw [if_pos c17] at H
                            have c17b0 : decide (0 ≤ x6_1) = true := decide_eq_true c17
                            clear c17
                            by_cases c18 : x6_1 < (l0.length : Int)
                            · rw [if_pos c18] at H
                              have c18b0 : decide (x6_1 < (l0.length : Int)) = true := decide_eq_true c18
                              clear c18
                              by_cases c19 : 0 ≤ x7_3
                              · rw [if_pos c19] at H
                                have c19b0 : decide (0 ≤ x7_3) = true := decide_eq_true c19
                                clear c19
                                by_cases c20 : x7_3 < (((rd_T27 l0 x6_1).f3).length : Int)
                                · rw [if_pos c20] at H
                                  have c20b0 : decide (x7_3 < (((rd_T27 l0 x6_1).f3).length : Int)) = true := decide_eq_true c20
                                  clear c20
                                  by_cases c21 : x5_3.length + (rd_L1 ((rd_T27 l0 x6_1).f3) x7_3).length < 8796093022208
                                  · rw [if_pos c21] at H
                                    have LMc21 := Aside0.mk c21
                                    clear c21
                                    obtain ⟨y627, hy627⟩ : ∃ y_ : List ByteArray, y_ = (x5_3 ++ (rd_L1 ((rd_T27 l0 x6_1).f3) x7_3)) := ⟨_, rfl⟩
                                    replace H : (sennitref07_Choose.l1 kj9 l0 a1 y627 x6_1 (wrap64 (x7_3 + 1))) = some r := by first | (rw [hy627]; with_reducible exact H) | (have H2_ := (Option.bind_some _ _).symm.trans H; rw [hy627]; with_reducible exact H2_) | (have H2_ := (Option.bind_some _ _).symm.trans H; with_reducible exact H2_) | with_reducible exact H | (rw [hy627]; exact H) | exact H
                                    have Ny627 := Aside0.mk hy627
                                    clear hy627
                                    have H' := Aside0.mk H
                                    clear H
                                    have p625 : 0 ≤ (x6_1 : Int) := of_decide_eq_true (by first | (with_reducible assumption) | assumption)
                                    have q625 : x6_1 < (l0.length : Int) := of_decide_eq_true (by first | (with_reducible assumption) | assumption)
                                    obtain ⟨ad625, A625_1, c625_1, A625_2, c625_2, A625_3, c625_3, e625, hx625_0, hx625_1, hx625_2, hx625_3, hl625_1, hi625_1, hl625_2, hi625_2, hl625_3, hi625_3⟩ := at_T27 HR0.out x6_1 p625 q625
                                    obtain rfl : ad618 = ad625 := (by injection e625)
                                    replace hx625_0 := (HB.out.cell (World.block_lt_of_cell? w _ hx625_0)).trans hx625_0
                                    replace hx625_1 := (HB.out.cell (World.block_lt_of_cell? w _ hx625_1)).trans hx625_1
                                    replace hx625_2 := (HB.out.cell (World.block_lt_of_cell? w _ hx625_2)).trans hx625_2
                                    replace hx625_3 := (HB.out.cell (World.block_lt_of_cell? w _ hx625_3)).trans hx625_3
                                    try (have ea_ := Option.some.inj (hx618_1.symm.trans hx625_1); injection ea_ with ea_ en_ ec_; subst ea_; subst ec_; clear en_)
                                    try (have ea_ := Option.some.inj (hx618_2.symm.trans hx625_2); injection ea_ with ea_ en_ ec_; subst ea_; subst ec_; clear en_)
                                    try (have ea_ := Option.some.inj (hx618_3.symm.trans hx625_3); injection ea_ with ea_ en_ ec_; subst ea_; subst ec_; clear en_)
                                    have HR625_1 := Aside0.mk hi625_1
                                    have HC625_1 := Aside0.mk hl625_1
                                    clear hi625_1 hl625_1
                                    have HR625_2 := Aside0.mk hi625_2
                                    have HC625_2 := Aside0.mk hl625_2
                                    clear hi625_2 hl625_2
                                    have HR625_3 := Aside0.mk hi625_3
                                    have HC625_3 := Aside0.mk hl625_3
                                    clear hi625_3 hl625_3
                                    replace p625 := eq_true p625
                                    replace q625 := eq_true q625
                                    have p626 : 0 ≤ (x7_3 : Int) := of_decide_eq_true (by first | (with_reducible assumption) | assumption)
                                    have q626 : x7_3 < (((rd_T27 l0 x6_1).f3).length : Int) := of_decide_eq_true (by first | (with_reducible assumption) | assumption)
                                    obtain ⟨ad626, A626_0, c626_0, e626, hx626_0, hl626_0, hi626_0⟩ := at_L1 HR625_3.out x7_3 p626 q626
                                    cases e626
                                    replace hx626_0 := (HB.out.cell (World.block_lt_of_cell? w _ hx626_0)).trans hx626_0
                                    have HR626_0 := Aside0.mk hi626_0
                                    have HC626_0 := Aside0.mk hl626_0
                                    clear hi626_0 hl626_0
                                    replace p626 := eq_true p626
                                    replace q626 := eq_true q626
                                    go_wp2_with (first | ((with_reducible refine gate_builtin (b := .append) (xs := #[.tmp 48, .tmp 56]) rfl ?_); (try (refine gate_guard (by rfl) ?_; dsimp only)); at_builtin; refine Kd.R_append_rows Kd.string (w0 := w) w.heap.size rfl (.tmp 48) (.tmp 56) 22 9 (.string ⟨#[]⟩) 16 rfl Try.underlying22 info9 rfl (by decide) (by omega) u5 x5_3 (rd_L1 ((rd_T27 l0 x6_1).f3) x7_3) _ _ _ (fun _ => True) (fun _ => False) rfl rfl ?aO ?aR (fun _ _ h => h) (fun _ h => h.elim) ?aF ?aB ?aS ?aL ?_; (case aR => repeat (first | exact (Kd.C_below HR626_0.out HB.out) | (with_reducible refine Kd.C_alloc ?_ _) | (with_reducible refine Kd.C_drewN ?_ _) | (with_reducible refine Kd.C_drew ?_))); (case aB => exact (by repeat (first | (with_reducible first | exact HB.out | apply below_alloc | apply pw_below_drewN | apply below_drew1) | exact HB.out))); (case aF => exact (fun _ _ => trivial)); (case aO => exact (by (with_reducible repeat (first | apply Kd.R_alloc | apply Kd.R_drewN | apply Kd.R_drew)); exact HO_5.out)); (case aS => exact (below_size (by repeat (first | (with_reducible first | exact HB.out | apply below_alloc | apply pw_below_drewN | apply below_drew1) | exact HB.out)))); (case aL => have := LMc21.out; omega); intro v628 w22 ho hb hg hat; rw [← Ny627.out] at ho; have n0_ := Aside0.mk (hb); have n1_ := Aside0.mk (ho); clear HB; clear HO_5; have HB := n0_; have HO629 := n1_; clear n0_ n1_; clear ho hb hg hat))
                                    go_roundg kj9
                                    case measure => have := HK1.out; have := HJ4.out; have := HK3.out; have := HJ9.out; omega
                                    case rel => exact ⟨(y627), (wrap64 (x7_3 + 1)), (by first | rfl | (simp; done) | (simp [*]; done)), H', ⟨by have := HK1.out; have := HJ4.out; have := HK3.out; have := HJ9.out; omega⟩, ⟨by (with_reducible repeat (first | apply Kd.R_alloc | apply Kd.R_drewN | apply Kd.R_drew)); exact HO629.out⟩, ⟨by repeat (first | (with_reducible first | exact HB.out | apply below_alloc | apply pw_below_drewN | apply below_drew1) | exact HB.out)⟩⟩
                                  · rw [if_neg c21] at H
                                    exact absurd H (by simp)
                                · rw [if_neg c20] at H
                                  exact absurd H (by simp)
                              · rw [if_neg c19] at H
                                exact absurd H (by simp)
                            · rw [if_neg c18] at H
                              exact absurd H (by simp)
                          · rw [if_neg c17] at H
                            exact absurd H (by simp)
                        · rw [if_neg c16] at H
                          have c16b0 : (x7_3 == (wrap64 (a1 - 1))) = false := beq_eq_false_iff_ne.mpr c16
                          have c16b1 : (x7_3 != (wrap64 (a1 - 1))) = true := bne_iff_ne.mpr c16
                          have H' := Aside0.mk H
                          clear H
                          go_wp2
                          go_roundg kj9
                          case measure => have := HK1.out; have := HJ4.out; have := HK3.out; have := HJ9.out; omega
                          case rel => exact ⟨(x5_3), (wrap64 (x7_3 + 1)), (by first | rfl | (simp; done) | (simp [*]; done)), H', ⟨by have := HK1.out; have := HJ4.out; have := HK3.out; have := HJ9.out; omega⟩, ⟨by (with_reducible repeat (first | apply Kd.R_alloc | apply Kd.R_drewN | apply Kd.R_drew)); exact HO_5.out⟩, ⟨by repeat (first | (with_reducible first | exact HB.out | apply below_alloc | apply pw_below_drewN | apply below_drew1) | exact HB.out)⟩⟩
                      · replace c15 := Bool.eq_false_iff.mpr c15
                        subst c15
                        have H1 : (sennitref07_Choose.l0 kj9 l0 a1 x5_3 (wrap64 (x6_1 + 1))) = some r := by rw [if_neg (show ¬ (false = true) by decide)] at H; exact H
                        clear H
                        have H := H1
                        clear H1
                        have H' := Aside0.mk H
                        clear H
                        go_wp2
                        go_roundg kj9
                        case measure => have := HK1.out; have := HJ4.out; have := HK3.out; have := HJ9.out; omega
                        case rel => exact ⟨(x5_3), (wrap64 (x6_1 + 1)), (by first | rfl | (simp; done) | (simp [*]; done)), H', ⟨by have := HK1.out; have := HJ4.out; have := HK3.out; have := HJ9.out; omega⟩, ⟨by (with_reducible repeat (first | apply Kd.R_alloc | apply Kd.R_drewN | apply Kd.R_drew)); exact HO_5.out⟩, ⟨by repeat (first | (with_reducible first | exact HB.out | apply below_alloc | apply pw_below_drewN | apply below_drew1) | exact HB.out)⟩⟩
        · rw [if_neg c4] at H
          exact absurd H (by simp)
      · rw [if_neg c3] at H
        have c3b0 : decide (x6_1 < (l0.length : Int)) = false := decide_eq_false c3
        clear c3
        obtain rfl := Option.some.inj H
        go_wp2
        go_ret
        exact ⟨_, by first | rfl | (simp [errW_none, errW_some] <;> rfl) | (simp [*, errW_none, errW_some] <;> rfl), by (with_reducible repeat (first | apply Kd.R_alloc | apply Kd.R_drewN | apply Kd.R_drew)); exact HO_5.out, by repeat (first | (with_reducible first | exact HB.out | apply below_alloc | apply pw_below_drewN | apply below_drew1) | exact HB.out)⟩

end Go.Proofs.Ytiaoppikdgoieaa.M
namespace Go.Proofs.Ytiaoppikdgoieaa.M
open Go.RowKit Go.Proofs.YtiaoppikdgoieaaW.PrintWords Go.Proofs.YtiaoppikdgoieaaW.PrintLast Go.Proofs.YtiaoppikdgoieaaW.PrintMore
attribute [local go_sem] max2_int min2_int max_two min_two max_three min_three max_four min_four
set_option linter.unusedVariables false
set_option linter.unusedSimpArgs false

/-! ### sennitref07_union: function 69 -/
mutual
def sennitref07_union.l0 : Nat → List (List ByteArray) → List ByteArray → Int → Option (List ByteArray)
  | 0, _, _, _ => none
  | k + 1, x0, x3, x4 => if x4 < (x0.length : Int) then (sennitref07_union.l1 k x0 x3 x4 false (wrap64 (x4 + 1))) else (some x3)
def sennitref07_union.l1 : Nat → List (List ByteArray) → List ByteArray → Int → Bool → Int → Option (List ByteArray)
  | 0, _, _, _, _, _ => none
  | k + 1, x0, x3, x4, x5, x6 => if x6 < (x0.length : Int) then (if x5 = true then (sennitref07_union.l1 k x0 x3 x4 true (wrap64 (x6 + 1))) else (if 0 ≤ x6 then (sennitref07_union.l1 k x0 x3 x4 (decide (((rd_L1 x0 x6).length : Int) > 0)) (wrap64 (x6 + 1))) else (none))) else (sennitref07_union.l2 k x0 x3 x4 x5 0)
def sennitref07_union.l2 : Nat → List (List ByteArray) → List ByteArray → Int → Bool → Int → Option (List ByteArray)
  | 0, _, _, _, _, _ => none
  | k + 1, x0, x3, x4, x5, x7 => if 0 ≤ x4 then (if x4 < (x0.length : Int) then (if x7 < ((rd_L1 x0 x4).length : Int) then (if 0 ≤ x7 then (if x7 = (wrap64 (((rd_L1 x0 x4).length : Int) - 1)) then (if x5 = true then ((sennitref01_Open.f (rd_L1 x0 x4)).bind fun t650 => (if t650 = true then (if (rdOf ByteArray.empty (rd_L1 x0 x4) x7).size + 1 ≤ 9223372036854775807 then (if x3.length < 8796093022208 then (sennitref07_union.l2 k x0 (x3 ++ [(rdOf ByteArray.empty (rd_L1 x0 x4) x7) ++ (⟨#[10]⟩ : ByteArray)]) x4 x5 (wrap64 (x7 + 1))) else (none)) else (none)) else (if x3.length < 8796093022208 then (sennitref07_union.l2 k x0 (x3 ++ [rdOf ByteArray.empty (rd_L1 x0 x4) x7]) x4 x5 (wrap64 (x7 + 1))) else (none)))) else (if x3.length < 8796093022208 then (sennitref07_union.l2 k x0 (x3 ++ [rdOf ByteArray.empty (rd_L1 x0 x4) x7]) x4 x5 (wrap64 (x7 + 1))) else (none))) else (if x3.length < 8796093022208 then (sennitref07_union.l2 k x0 (x3 ++ [rdOf ByteArray.empty (rd_L1 x0 x4) x7]) x4 x5 (wrap64 (x7 + 1))) else (none))) else (none)) else (sennitref07_union.l0 k x0 x3 (wrap64 (x4 + 1)))) else (none)) else (none)
end
def sennitref07_union.f (k : Nat) (l0 : List (List ByteArray)) : Option (List ByteArray) := sennitref07_union.l0 k l0 ([] : List ByteArray) 0
theorem sennitref07_union.mono_l : ∀ k, (∀ y0 y1 y2, LeO (sennitref07_union.l0 k y0 y1 y2) (sennitref07_union.l0 (k + 1) y0 y1 y2)) ∧ (∀ y0 y1 y2 y3 y4, LeO (sennitref07_union.l1 k y0 y1 y2 y3 y4) (sennitref07_union.l1 (k + 1) y0 y1 y2 y3 y4)) ∧ (∀ y0 y1 y2 y3 y4, LeO (sennitref07_union.l2 k y0 y1 y2 y3 y4) (sennitref07_union.l2 (k + 1) y0 y1 y2 y3 y4))
  | 0 => ⟨fun _ _ _ r h => by simp [sennitref07_union.l0] at h, fun _ _ _ _ _ r h => by simp [sennitref07_union.l1] at h, fun _ _ _ _ _ r h => by simp [sennitref07_union.l2] at h⟩
  | k + 1 => by
    obtain ⟨ih0, ih1, ih2⟩ := sennitref07_union.mono_l k
    refine ⟨?_, ?_, ?_⟩
    · intro y0 y1 y2
      unfold sennitref07_union.l0
      repeat' first
      | (with_reducible exact ih0 _ _ _)
      | (with_reducible exact ih1 _ _ _ _ _)
      | (with_reducible exact ih2 _ _ _ _ _)
      | (with_reducible exact LeO.refl _)
      | (with_reducible exact LeO.none _)
      | (with_reducible refine LeO.ite ?_ ?_)
      | (with_reducible refine LeO.bind ?_ (fun _ => ?_))
      | exact ih0 _ _ _
      | exact ih1 _ _ _ _ _
      | exact ih2 _ _ _ _ _
      | exact LeO.none _
      | refine LeO.ite ?_ ?_
      | refine LeO.bind ?_ (fun _ => ?_)
    · intro y0 y1 y2 y3 y4
      unfold sennitref07_union.l1
      repeat' first
      | (with_reducible exact ih0 _ _ _)
      | (with_reducible exact ih1 _ _ _ _ _)
      | (with_reducible exact ih2 _ _ _ _ _)
      | (with_reducible exact LeO.refl _)
      | (with_reducible exact LeO.none _)
      | (with_reducible refine LeO.ite ?_ ?_)
      | (with_reducible refine LeO.bind ?_ (fun _ => ?_))
      | exact ih0 _ _ _
      | exact ih1 _ _ _ _ _
      | exact ih2 _ _ _ _ _
      | exact LeO.none _
      | refine LeO.ite ?_ ?_
      | refine LeO.bind ?_ (fun _ => ?_)
    · intro y0 y1 y2 y3 y4
      unfold sennitref07_union.l2
      repeat' first
      | (with_reducible exact ih0 _ _ _)
      | (with_reducible exact ih1 _ _ _ _ _)
      | (with_reducible exact ih2 _ _ _ _ _)
      | (with_reducible exact LeO.refl _)
      | (with_reducible exact LeO.none _)
      | (with_reducible refine LeO.ite ?_ ?_)
      | (with_reducible refine LeO.bind ?_ (fun _ => ?_))
      | exact ih0 _ _ _
      | exact ih1 _ _ _ _ _
      | exact ih2 _ _ _ _ _
      | exact LeO.none _
      | refine LeO.ite ?_ ?_
      | refine LeO.bind ?_ (fun _ => ?_)
theorem sennitref07_union.mono : ∀ a0 k, LeO (sennitref07_union.f k a0) (sennitref07_union.f (k + 1) a0) := by
  intro a0 k
  obtain ⟨ih0, ih1, ih2⟩ := sennitref07_union.mono_l k
  unfold sennitref07_union.f
  repeat' first
      | (with_reducible exact ih0 _ _ _)
      | (with_reducible exact ih1 _ _ _ _ _)
      | (with_reducible exact ih2 _ _ _ _ _)
      | (with_reducible exact LeO.refl _)
      | (with_reducible exact LeO.none _)
      | (with_reducible refine LeO.ite ?_ ?_)
      | (with_reducible refine LeO.bind ?_ (fun _ => ?_))
      | exact ih0 _ _ _
      | exact ih1 _ _ _ _ _
      | exact ih2 _ _ _ _ _
      | exact LeO.none _
      | refine LeO.ite ?_ ?_
      | refine LeO.bind ?_ (fun _ => ?_)
set_option maxHeartbeats 8000000 in
set_option maxRecDepth 100000 in
theorem sennitref07_union.calls (k : Nat) (A0 : Option Addr) (c0 : Nat) (l0 : List (List ByteArray)) (r : List ByteArray) (w : World) (hr0 : Kd.C (Kd.slice 9 Kd.string) w A0 l0.length l0) (hc0 : l0.length ≤ c0) (h : sennitref07_union.f k l0 = some r) :
    Calls Try.prog 69 #[.slice A0 l0.length c0] w fun e w' => ∃ v0_ : Value, e = .returned (v0_) ∧ Kd.R Kd.string 9 w' w.heap.size (fun _ => True) v0_ r ∧ Below w.heap.size w w' := by
  have HR0 := Aside0.mk hr0
  have HC0 := Aside0.mk hc0
  clear hr0 hc0
  have HB := Aside0.mk (Below.refl w.heap.size w)
  have H : (sennitref07_union.l0 k l0 ([] : List ByteArray) 0) = some r := h
  clear h
  have H' := Aside0.mk H
  clear H
  go_enter Try.func69, Try.ntmps69
  go_wp2
  go_loopg [3, 4] k (fun kq v3 v4 w' => ∃ (x3_1 : List ByteArray) (x4_1 : Int), v4 = .int .i64 x4_1 ∧ Aside0 (sennitref07_union.l0 kq l0 x3_1 x4_1 = some r) ∧ Aside0 (kq ≤ k) ∧ Aside0 (Kd.R Kd.string 9 w' w.heap.size (fun _ => True) v3 x3_1) ∧ Aside0 (Below w.heap.size w w'))
  case atStart => exact ⟨(([] : List ByteArray)), (0), (by first | rfl | (simp; done) | (simp [*]; done)), H', ⟨Nat.le_refl _⟩, ⟨by first | exact Kd.R_nil _ _ _ _ _ | exact Kd.N_nil _ _ _ _ _ | exact Kd.V_nil _ _ _ _ _ | exact Kd.Q_nil _ _ _ _ _ | exact Kd.S_nil _ _ _ _ _⟩, ⟨by repeat (first | (with_reducible first | exact HB.out | apply below_alloc | apply pw_below_drewN | apply below_drew1) | exact HB.out)⟩⟩
  case round =>
    clear H'
    obtain ⟨x3_1, x4_1, rfl, HA, HK1, HO_3, HB⟩ := hrel
    cases gk with
    | zero => exact absurd HA.out (by simp [sennitref07_union.l0])
    | succ k1 =>
      have H := HA.out
      clear HA
      simp only [sennitref07_union.l0] at H
      by_cases c2 : x4_1 < (l0.length : Int)
      · rw [if_pos c2] at H
        have c2b0 : decide (x4_1 < (l0.length : Int)) = true := decide_eq_true c2
        clear c2
        have H' := Aside0.mk H
        clear H
        go_wp2
        go_loopg [5, 6] k1 (fun kq v5 v6 w' => ∃ (x5_2 : Bool) (x6_2 : Int), v5 = .bool x5_2 ∧ v6 = .int .i64 x6_2 ∧ Aside0 (sennitref07_union.l1 kq l0 x3_1 x4_1 x5_2 x6_2 = some r) ∧ Aside0 (kq ≤ k1) ∧ Aside0 (Kd.R Kd.string 9 w' w.heap.size (fun _ => True) u3 x3_1) ∧ Aside0 (Below w.heap.size w w'))
        case atStart => exact ⟨(false), (wrap64 (x4_1 + 1)), (by first | rfl | (simp; done) | (simp [*]; done)), (by first | rfl | (simp; done) | (simp [*]; done)), H', ⟨Nat.le_refl _⟩, ⟨by (with_reducible repeat (first | apply Kd.R_alloc | apply Kd.R_drewN | apply Kd.R_drew)); exact HO_3.out⟩, ⟨by repeat (first | (with_reducible first | exact HB.out | apply below_alloc | apply pw_below_drewN | apply below_drew1) | exact HB.out)⟩⟩
        case round =>
          clear H'
          try clear c2
          try clear c2b0
          try clear p2
          obtain ⟨x5_2, x6_2, rfl, rfl, HA, HK2, HO_3, HB⟩ := hrel
          cases gk with
          | zero => exact absurd HA.out (by simp [sennitref07_union.l1])
          | succ k2 =>
            have H := HA.out
            clear HA
            simp only [sennitref07_union.l1] at H
            by_cases c3 : x6_2 < (l0.length : Int)
            · rw [if_pos c3] at H
              have c3b0 : decide (x6_2 < (l0.length : Int)) = true := decide_eq_true c3
              clear c3
              by_cases c4 : x5_2 = true
              · subst c4
                have H1 : (sennitref07_union.l1 k2 l0 x3_1 x4_1 true (wrap64 (x6_2 + 1))) = some r := by rw [if_pos rfl] at H; exact H
                clear H
                have H := H1
                clear H1
                have H' := Aside0.mk H
                clear H
                go_wp2
                go_roundg k2
                case measure => have := HK1.out; have := HK2.out; omega
                case rel => exact ⟨(true), (wrap64 (x6_2 + 1)), (by first | rfl | (simp; done) | (simp [*]; done)), (by first | rfl | (simp; done) | (simp [*]; done)), H', ⟨by have := HK1.out; have := HK2.out; omega⟩, ⟨by (with_reducible repeat (first | apply Kd.R_alloc | apply Kd.R_drewN | apply Kd.R_drew)); exact HO_3.out⟩, ⟨by repeat (first | (with_reducible first | exact HB.out | apply below_alloc | apply pw_below_drewN | apply below_drew1) | exact HB.out)⟩⟩
              · replace c4 := Bool.eq_false_iff.mpr c4
                subst c4
                have H1 : (if 0 ≤ x6_2 then (sennitref07_union.l1 k2 l0 x3_1 x4_1 (decide (((rd_L1 l0 x6_2).length : Int) > 0)) (wrap64 (x6_2 + 1))) else (none)) = some r := by rw [if_neg (show ¬ (false = true) by decide)] at H; exact H
                clear H
                have H := H1
                clear H1
                by_cases c5 : 0 ≤ x6_2
                · rw [if_pos c5] at H
                  have c5b0 : decide (0 ≤ x6_2) = true := decide_eq_true c5
                  clear c5
                  have H' := Aside0.mk H
                  clear H
                  have p644 : 0 ≤ (x6_2 : Int) := of_decide_eq_true (by first | (with_reducible assumption) | assumption)
                  have q644 : x6_2 < (l0.length : Int) := of_decide_eq_true (by first | (with_reducible assumption) | assumption)
                  obtain ⟨ad644, A644_0, c644_0, e644, hx644_0, hl644_0, hi644_0⟩ := at_L1 HR0.out x6_2 p644 q644
                  cases e644
                  replace hx644_0 := (HB.out.cell (World.block_lt_of_cell? w _ hx644_0)).trans hx644_0
                  have HR644_0 := Aside0.mk hi644_0
                  have HC644_0 := Aside0.mk hl644_0
                  clear hi644_0 hl644_0
                  replace p644 := eq_true p644
                  replace q644 := eq_true q644
                  go_wp2
                  go_roundg k2
                  case measure => have := HK1.out; have := HK2.out; omega
                  case rel => exact ⟨(decide (((rd_L1 l0 x6_2).length : Int) > 0)), (wrap64 (x6_2 + 1)), (by first | rfl | (simp; done) | (simp [*]; done)), (by first | rfl | (simp; done) | (simp [*]; done)), H', ⟨by have := HK1.out; have := HK2.out; omega⟩, ⟨by (with_reducible repeat (first | apply Kd.R_alloc | apply Kd.R_drewN | apply Kd.R_drew)); exact HO_3.out⟩, ⟨by repeat (first | (with_reducible first | exact HB.out | apply below_alloc | apply pw_below_drewN | apply below_drew1) | exact HB.out)⟩⟩
                · rw [if_neg c5] at H
                  exact absurd H (by simp)
            · rw [if_neg c3] at H
              have c3b0 : decide (x6_2 < (l0.length : Int)) = false := decide_eq_false c3
              clear c3
              have H' := Aside0.mk H
              clear H
              go_wp2
              go_loopg [3, 7] k2 (fun kq v3 v7 w' => ∃ (x3_3 : List ByteArray) (x7_3 : Int), v7 = .int .i64 x7_3 ∧ Aside0 (sennitref07_union.l2 kq l0 x3_3 x4_1 x5_2 x7_3 = some r) ∧ Aside0 (kq ≤ k2) ∧ Aside0 (Kd.R Kd.string 9 w' w.heap.size (fun _ => True) v3 x3_3) ∧ Aside0 (Below w.heap.size w w'))
              case atStart => exact ⟨(x3_1), (0), (by first | rfl | (simp; done) | (simp [*]; done)), H', ⟨Nat.le_refl _⟩, ⟨by (with_reducible repeat (first | apply Kd.R_alloc | apply Kd.R_drewN | apply Kd.R_drew)); exact HO_3.out⟩, ⟨by repeat (first | (with_reducible first | exact HB.out | apply below_alloc | apply pw_below_drewN | apply below_drew1) | exact HB.out)⟩⟩
              case round =>
                clear H'
                try clear c2
                try clear c2b0
                try clear p2
                try clear c3
                try clear c3b0
                try clear c4
                try clear c5
                try clear c5b0
                try clear hx644_0
                try clear p2
                try clear p644
                try clear q644
                obtain ⟨x3_3, x7_3, rfl, HA, HK3, HO_3, HB⟩ := hrel
                cases gk with
                | zero => exact absurd HA.out (by simp [sennitref07_union.l2])
                | succ k3 =>
                  have H := HA.out
                  clear HA
                  simp only [sennitref07_union.l2] at H
                  by_cases c6 : 0 ≤ x4_1
                  · rw [if_pos c6] at H
                    have c6b0 : decide (0 ≤ x4_1) = true := decide_eq_true c6
                    clear c6
                    by_cases c7 : x4_1 < (l0.length : Int)
                    · rw [if_pos c7] at H
                      have c7b0 : decide (x4_1 < (l0.length : Int)) = true := decide_eq_true c7
                      clear c7
                      by_cases c8 : x7_3 < ((rd_L1 l0 x4_1).length : Int)
                      · rw [if_pos c8] at H
                        have c8b0 : decide (x7_3 < ((rd_L1 l0 x4_1).length : Int)) = true := decide_eq_true c8
                        clear c8
                        by_cases c9 : 0 ≤ x7_3
                        · rw [if_pos c9] at H
                          have c9b0 : decide (0 ≤ x7_3) = true := decide_eq_true c9
                          clear c9
                          by_cases c10 : x7_3 = (wrap64 (((rd_L1 l0 x4_1).length : Int) - 1))
                          · rw [if_pos c10] at H
                            have c10b0 : (x7_3 == (wrap64 (((rd_L1 l0 x4_1).length : Int) - 1))) = true := beq_iff_eq.mpr c10
                            have c10b1 : (x7_3 != (wrap64 (((rd_L1 l0 x4_1).length : Int) - 1))) = false := bne_eq_false_iff_eq.mpr c10
                            clear c10
                            by_cases c11 : x5_2 = true
                            · subst c11
                              have H1 : ((sennitref01_Open.f (rd_L1 l0 x4_1)).bind fun t650 => (if t650 = true then (if (rdOf ByteArray.empty (rd_L1 l0 x4_1) x7_3).size + 1 ≤ 9223372036854775807 then (if x3_3.length < 8796093022208 then (sennitref07_union.l2 k3 l0 (x3_3 ++ [(rdOf ByteArray.empty (rd_L1 l0 x4_1) x7_3) ++ (⟨#[10]⟩ : ByteArray)]) x4_1 true (wrap64 (x7_3 + 1))) else (none)) else (none)) else (if x3_3.length < 8796093022208 then (sennitref07_union.l2 k3 l0 (x3_3 ++ [rdOf ByteArray.empty (rd_L1 l0 x4_1) x7_3]) x4_1 true (wrap64 (x7_3 + 1))) else (none)))) = some r := by rw [if_pos rfl] at H; exact H
                              clear H
                              have H := H1
                              clear H1
                              replace H := Option.bind_eq_some_iff.mp H
                              obtain ⟨t650, A120, H⟩ := H
                              replace H : (if t650 = true then (if (rdOf ByteArray.empty (rd_L1 l0 x4_1) x7_3).size + 1 ≤ 9223372036854775807 then (if x3_3.length < 8796093022208 then (sennitref07_union.l2 k3 l0 (x3_3 ++ [(rdOf ByteArray.empty (rd_L1 l0 x4_1) x7_3) ++ (⟨#[10]⟩ : ByteArray)]) x4_1 true (wrap64 (x7_3 + 1))) else (none)) else (none)) else (if x3_3.length < 8796093022208 then (sennitref07_union.l2 k3 l0 (x3_3 ++ [rdOf ByteArray.empty (rd_L1 l0 x4_1) x7_3]) x4_1 true (wrap64 (x7_3 + 1))) else (none))) = some r := H
                              have A12 := Aside0.mk A120
                              clear A120
                              by_cases c13 : t650 = true
                              · subst c13
                                have H1 : (if (rdOf ByteArray.empty (rd_L1 l0 x4_1) x7_3).size + 1 ≤ 9223372036854775807 then (if x3_3.length < 8796093022208 then (sennitref07_union.l2 k3 l0 (x3_3 ++ [(rdOf ByteArray.empty (rd_L1 l0 x4_1) x7_3) ++ (⟨#[10]⟩ : ByteArray)]) x4_1 true (wrap64 (x7_3 + 1))) else (none)) else (none)) = some r := by rw [if_pos rfl] at H; exact H
                                clear H
                                have H := H1
                                clear H1
                                by_cases c14 : (rdOf ByteArray.empty (rd_L1 l0 x4_1) x7_3).size + 1 ≤ 9223372036854775807
                                · rw [if_pos c14] at H
                                  have c14b0 := eq_true c14
                                  have c14b1 : decide ((rdOf ByteArray.empty (rd_L1 l0 x4_1) x7_3).size + 1 ≤ 9223372036854775807) = true := decide_eq_true c14
                                  try have c14b2 : (9223372036854775807 < (rdOf ByteArray.empty (rd_L1 l0 x4_1) x7_3).size + 1) = False := eq_false (Nat.not_lt.2 c14)
                                  by_cases c15 : x3_3.length < 8796093022208
                                  · rw [if_pos c15] at H
                                    have LMc15 := Aside0.mk c15
                                    clear c15
                                    obtain ⟨y651, hy651⟩ : ∃ y_ : List ByteArray, y_ = (x3_3 ++ [(rdOf ByteArray.empty (rd_L1 l0 x4_1) x7_3) ++ (⟨#[10]⟩ : ByteArray)]) := ⟨_, rfl⟩
                                    replace H : (sennitref07_union.l2 k3 l0 y651 x4_1 true (wrap64 (x7_3 + 1))) = some r := by first | (rw [hy651]; with_reducible exact H) | (have H2_ := (Option.bind_some _ _).symm.trans H; rw [hy651]; with_reducible exact H2_) | (have H2_ := (Option.bind_some _ _).symm.trans H; with_reducible exact H2_) | with_reducible exact H | (rw [hy651]; exact H) | exact H
                                    have Ny651 := Aside0.mk hy651
                                    clear hy651
                                    have H' := Aside0.mk H
                                    clear H
                                    have p645 : 0 ≤ (x4_1 : Int) := of_decide_eq_true (by first | (with_reducible assumption) | assumption)
                                    have q645 : x4_1 < (l0.length : Int) := of_decide_eq_true (by first | (with_reducible assumption) | assumption)
                                    obtain ⟨ad645, A645_0, c645_0, e645, hx645_0, hl645_0, hi645_0⟩ := at_L1 HR0.out x4_1 p645 q645
                                    cases e645
                                    replace hx645_0 := (HB.out.cell (World.block_lt_of_cell? w _ hx645_0)).trans hx645_0
                                    have HR645_0 := Aside0.mk hi645_0
                                    have HC645_0 := Aside0.mk hl645_0
                                    clear hi645_0 hl645_0
                                    replace p645 := eq_true p645
                                    replace q645 := eq_true q645
                                    have p646 : 0 ≤ (x4_1 : Int) := of_decide_eq_true (by first | (with_reducible assumption) | assumption)
                                    have q646 : x4_1 < (l0.length : Int) := of_decide_eq_true (by first | (with_reducible assumption) | assumption)
                                    obtain ⟨ad646, A646_0, c646_0, e646, hx646_0, hl646_0, hi646_0⟩ := at_L1 HR0.out x4_1 p646 q646
                                    obtain rfl : ad645 = ad646 := (by injection e646)
                                    replace hx646_0 := (HB.out.cell (World.block_lt_of_cell? w _ hx646_0)).trans hx646_0
                                    have HR646_0 := Aside0.mk hi646_0
                                    have HC646_0 := Aside0.mk hl646_0
                                    clear hi646_0 hl646_0
                                    replace p646 := eq_true p646
                                    replace q646 := eq_true q646
                                    have ea_ := Option.some.inj (hx645_0.symm.trans hx646_0)
                                    injection ea_ with ea_ en_ ec_
                                    subst ea_
                                    subst ec_
                                    clear en_
                                    have p647 : 0 ≤ (x7_3 : Int) := of_decide_eq_true (by first | (with_reducible assumption) | assumption)
                                    have q647 : x7_3 < ((rd_L1 l0 x4_1).length : Int) := of_decide_eq_true (by first | (with_reducible assumption) | assumption)
                                    obtain ⟨ad647, e647, hx647_0⟩ := Kd.at_string HR646_0.out x7_3 p647 q647
                                    cases e647
                                    replace hx647_0 := (HB.out.cell (World.block_lt_of_cell? w _ hx647_0)).trans hx647_0
                                    replace p647 := eq_true p647
                                    replace q647 := eq_true q647
                                    have p648 : 0 ≤ (x4_1 : Int) := of_decide_eq_true (by first | (with_reducible assumption) | assumption)
                                    have q648 : x4_1 < (l0.length : Int) := of_decide_eq_true (by first | (with_reducible assumption) | assumption)
                                    obtain ⟨ad648, A648_0, c648_0, e648, hx648_0, hl648_0, hi648_0⟩ := at_L1 HR0.out x4_1 p648 q648
                                    obtain rfl : ad645 = ad648 := (by injection e648)
                                    replace hx648_0 := (HB.out.cell (World.block_lt_of_cell? w _ hx648_0)).trans hx648_0
                                    have HR648_0 := Aside0.mk hi648_0
                                    have HC648_0 := Aside0.mk hl648_0
                                    clear hi648_0 hl648_0
                                    replace p648 := eq_true p648
                                    replace q648 := eq_true q648
                                    have ea_ := Option.some.inj (hx645_0.symm.trans hx648_0)
                                    injection ea_ with ea_ en_ ec_
                                    subst ea_
                                    subst ec_
                                    clear en_
                                    have p649 : 0 ≤ (x4_1 : Int) := of_decide_eq_true (by first | (with_reducible assumption) | assumption)
                                    have q649 : x4_1 < (l0.length : Int) := of_decide_eq_true (by first | (with_reducible assumption) | assumption)
                                    obtain ⟨ad649, A649_0, c649_0, e649, hx649_0, hl649_0, hi649_0⟩ := at_L1 HR0.out x4_1 p649 q649
                                    obtain rfl : ad645 = ad649 := (by injection e649)
                                    replace hx649_0 := (HB.out.cell (World.block_lt_of_cell? w _ hx649_0)).trans hx649_0
                                    have HR649_0 := Aside0.mk hi649_0
                                    have HC649_0 := Aside0.mk hl649_0
                                    clear hi649_0 hl649_0
                                    replace p649 := eq_true p649
                                    replace q649 := eq_true q649
                                    have ea_ := Option.some.inj (hx645_0.symm.trans hx649_0)
                                    injection ea_ with ea_ en_ ec_
                                    subst ea_
                                    subst ec_
                                    clear en_
                                    go_wp2_with (first | (go_at_call 23; (with_reducible refine (sennitref01_Open.calls _ _ (rd_L1 l0 x4_1) true _ ?side1 ?side2 A12.out).mono ?_); (case side1 => repeat (first | exact (Kd.C_below HR649_0.out HB.out) | (with_reducible refine Kd.C_alloc ?_ _) | (with_reducible refine Kd.C_drewN ?_ _) | (with_reducible refine Kd.C_drew ?_))); (case side2 => exact HC649_0.out); rintro e w' ⟨rfl, ⟨nd, rfl⟩⟩) | ((with_reducible refine gate_builtin (b := .append) (xs := #[.tmp 68, .tmp 70]) rfl ?_); (try (refine gate_guard (by rfl) ?_; dsimp only)); at_builtin; refine Kd.R_append Kd.string (w0 := w) w.heap.size rfl (.tmp 68) (.tmp 70) 22 9 (.string ⟨#[]⟩) 16 rfl Try.underlying22 info9 rfl (by decide) (by omega) u3 x3_3 ((rdOf ByteArray.empty (rd_L1 l0 x4_1) x7_3) ++ (⟨#[10]⟩ : ByteArray)) [.string ((rdOf ByteArray.empty (rd_L1 l0 x4_1) x7_3) ++ (⟨#[10]⟩ : ByteArray))] (fun _ => True) (fun _ => False) rfl rfl ?aP (fun _ hk => hk.elim) ?aF ?aO ?aB ?aS ?aL ?_; (case aP => exact rfl); (case aB => exact (by repeat (first | (with_reducible first | exact HB.out | apply below_alloc | apply pw_below_drewN | apply below_drew1) | exact HB.out))); (case aF => exact (fun _ _ => trivial)); (case aO => exact (by (with_reducible repeat (first | apply Kd.R_alloc | apply Kd.R_drewN | apply Kd.R_drew)); exact HO_3.out)); (case aS => exact (below_size (by repeat (first | (with_reducible first | exact HB.out | apply below_alloc | apply pw_below_drewN | apply below_drew1) | exact HB.out)))); (case aL => have := LMc15.out; omega); intro v652 w16 ho hb hg hat; rw [← Ny651.out] at ho; have n0_ := Aside0.mk (hb); have n1_ := Aside0.mk (ho); clear HB; clear HO_3; have HB := n0_; have HO653 := n1_; clear n0_ n1_; clear ho hb hg hat))
                                    go_roundg k3
                                    case measure => have := HK1.out; have := HK2.out; have := HK3.out; omega
                                    case rel => exact ⟨(y651), (wrap64 (x7_3 + 1)), (by first | rfl | (simp; done) | (simp [*]; done)), H', ⟨by have := HK1.out; have := HK2.out; have := HK3.out; omega⟩, ⟨by (with_reducible repeat (first | apply Kd.R_alloc | apply Kd.R_drewN | apply Kd.R_drew)); exact HO653.out⟩, ⟨by repeat (first | (with_reducible first | exact HB.out | apply below_alloc | apply pw_below_drewN | apply below_drew1) | exact HB.out)⟩⟩
                                  · rw [if_neg c15] at H
                                    exact absurd H (by simp)
                                · rw [if_neg c14] at H
                                  exact absurd H (by simp)
                              · replace c13 := Bool.eq_false_iff.mpr c13
                                subst c13
                                have H1 : (if x3_3.length < 8796093022208 then (sennitref07_union.l2 k3 l0 (x3_3 ++ [rdOf ByteArray.empty (rd_L1 l0 x4_1) x7_3]) x4_1 true (wrap64 (x7_3 + 1))) else (none)) = some r := by rw [if_neg (show ¬ (false = true) by decide)] at H; exact H
                                clear H
                                have H := H1
                                clear H1
                                by_cases c17 : x3_3.length < 8796093022208
                                · rw [if_pos c17] at H
                                  have LMc17 := Aside0.mk c17
                                  clear c17
                                  obtain ⟨y654, hy654⟩ : ∃ y_ : List ByteArray, y_ = (x3_3 ++ [rdOf ByteArray.empty (rd_L1 l0 x4_1) x7_3]) := ⟨_, rfl⟩
                                  replace H : (sennitref07_union.l2 k3 l0 y654 x4_1 true (wrap64 (x7_3 + 1))) = some r := by first | (rw [hy654]; with_reducible exact H) | (have H2_ := (Option.bind_some _ _).symm.trans H; rw [hy654]; with_reducible exact H2_) | (have H2_ := (Option.bind_some _ _).symm.trans H; with_reducible exact H2_) | with_reducible exact H | (rw [hy654]; exact H) | exact H
                                  have Ny654 := Aside0.mk hy654
                                  clear hy654
                                  have H' := Aside0.mk H
                                  clear H
                                  have p645 : 0 ≤ (x4_1 : Int) := of_decide_eq_true (by first | (with_reducible assumption) | assumption)
                                  have q645 : x4_1 < (l0.length : Int) := of_decide_eq_true (by first | (with_reducible assumption) | assumption)
                                  obtain ⟨ad645, A645_0, c645_0, e645, hx645_0, hl645_0, hi645_0⟩ := at_L1 HR0.out x4_1 p645 q645
                                  cases e645
                                  replace hx645_0 := (HB.out.cell (World.block_lt_of_cell? w _ hx645_0)).trans hx645_0
                                  have HR645_0 := Aside0.mk hi645_0
                                  have HC645_0 := Aside0.mk hl645_0
                                  clear hi645_0 hl645_0
                                  replace p645 := eq_true p645
                                  replace q645 := eq_true q645
                                  have p646 : 0 ≤ (x4_1 : Int) := of_decide_eq_true (by first | (with_reducible assumption) | assumption)
                                  have q646 : x4_1 < (l0.length : Int) := of_decide_eq_true (by first | (with_reducible assumption) | assumption)
                                  obtain ⟨ad646, A646_0, c646_0, e646, hx646_0, hl646_0, hi646_0⟩ := at_L1 HR0.out x4_1 p646 q646
                                  obtain rfl : ad645 = ad646 := (by injection e646)
                                  replace hx646_0 := (HB.out.cell (World.block_lt_of_cell? w _ hx646_0)).trans hx646_0
                                  have HR646_0 := Aside0.mk hi646_0
                                  have HC646_0 := Aside0.mk hl646_0
                                  clear hi646_0 hl646_0
                                  replace p646 := eq_true p646
                                  replace q646 := eq_true q646
                                  have ea_ := Option.some.inj (hx645_0.symm.trans hx646_0)
                                  injection ea_ with ea_ en_ ec_
                                  subst ea_
                                  subst ec_
                                  clear en_
                                  have p647 : 0 ≤ (x7_3 : Int) := of_decide_eq_true (by first | (with_reducible assumption) | assumption)
                                  have q647 : x7_3 < ((rd_L1 l0 x4_1).length : Int) := of_decide_eq_true (by first | (with_reducible assumption) | assumption)
                                  obtain ⟨ad647, e647, hx647_0⟩ := Kd.at_string HR646_0.out x7_3 p647 q647
                                  cases e647
                                  replace hx647_0 := (HB.out.cell (World.block_lt_of_cell? w _ hx647_0)).trans hx647_0
                                  replace p647 := eq_true p647
                                  replace q647 := eq_true q647
                                  have p648 : 0 ≤ (x4_1 : Int) := of_decide_eq_true (by first | (with_reducible assumption) | assumption)
                                  have q648 : x4_1 < (l0.length : Int) := of_decide_eq_true (by first | (with_reducible assumption) | assumption)
                                  obtain ⟨ad648, A648_0, c648_0, e648, hx648_0, hl648_0, hi648_0⟩ := at_L1 HR0.out x4_1 p648 q648
                                  obtain rfl : ad645 = ad648 := (by injection e648)
                                  replace hx648_0 := (HB.out.cell (World.block_lt_of_cell? w _ hx648_0)).trans hx648_0
                                  have HR648_0 := Aside0.mk hi648_0
                                  have HC648_0 := Aside0.mk hl648_0
                                  clear hi648_0 hl648_0
                                  replace p648 := eq_true p648
                                  replace q648 := eq_true q648
                                  have ea_ := Option.some.inj (hx645_0.symm.trans hx648_0)
                                  injection ea_ with ea_ en_ ec_
                                  subst ea_
                                  subst ec_
                                  clear en_
                                  have p649 : 0 ≤ (x4_1 : Int) := of_decide_eq_true (by first | (with_reducible assumption) | assumption)
                                  have q649 : x4_1 < (l0.length : Int) := of_decide_eq_true (by first | (with_reducible assumption) | assumption)
                                  obtain ⟨ad649, A649_0, c649_0, e649, hx649_0, hl649_0, hi649_0⟩ := at_L1 HR0.out x4_1 p649 q649
                                  obtain rfl : ad645 = ad649 := (by injection e649)
                                  replace hx649_0 := (HB.out.cell (World.block_lt_of_cell? w _ hx649_0)).trans hx649_0
                                  have HR649_0 := Aside0.mk hi649_0
                                  have HC649_0 := Aside0.mk hl649_0
                                  clear hi649_0 hl649_0
                                  replace p649 := eq_true p649
                                  replace q649 := eq_true q649
                                  have ea_ := Option.some.inj (hx645_0.symm.trans hx649_0)
                                  injection ea_ with ea_ en_ ec_
                                  subst ea_
                                  subst ec_
                                  clear en_
                                  go_wp2_with (first | (go_at_call 23; (with_reducible refine (sennitref01_Open.calls _ _ (rd_L1 l0 x4_1) false _ ?side1 ?side2 A12.out).mono ?_); (case side1 => repeat (first | exact (Kd.C_below HR649_0.out HB.out) | (with_reducible refine Kd.C_alloc ?_ _) | (with_reducible refine Kd.C_drewN ?_ _) | (with_reducible refine Kd.C_drew ?_))); (case side2 => exact HC649_0.out); rintro e w' ⟨rfl, ⟨nd, rfl⟩⟩) | ((with_reducible refine gate_builtin (b := .append) (xs := #[.tmp 68, .tmp 70]) rfl ?_); (try (refine gate_guard (by rfl) ?_; dsimp only)); at_builtin; refine Kd.R_append Kd.string (w0 := w) w.heap.size rfl (.tmp 68) (.tmp 70) 22 9 (.string ⟨#[]⟩) 16 rfl Try.underlying22 info9 rfl (by decide) (by omega) u3 x3_3 (rdOf ByteArray.empty (rd_L1 l0 x4_1) x7_3) [.string (rdOf ByteArray.empty (rd_L1 l0 x4_1) x7_3)] (fun _ => True) (fun _ => False) rfl rfl ?aP (fun _ hk => hk.elim) ?aF ?aO ?aB ?aS ?aL ?_; (case aP => exact rfl); (case aB => exact (by repeat (first | (with_reducible first | exact HB.out | apply below_alloc | apply pw_below_drewN | apply below_drew1) | exact HB.out))); (case aF => exact (fun _ _ => trivial)); (case aO => exact (by (with_reducible repeat (first | apply Kd.R_alloc | apply Kd.R_drewN | apply Kd.R_drew)); exact HO_3.out)); (case aS => exact (below_size (by repeat (first | (with_reducible first | exact HB.out | apply below_alloc | apply pw_below_drewN | apply below_drew1) | exact HB.out)))); (case aL => have := LMc17.out; omega); intro v655 w18 ho hb hg hat; rw [← Ny654.out] at ho; have n0_ := Aside0.mk (hb); have n1_ := Aside0.mk (ho); clear HB; clear HO_3; have HB := n0_; have HO656 := n1_; clear n0_ n1_; clear ho hb hg hat))
                                  go_roundg k3
                                  case measure => have := HK1.out; have := HK2.out; have := HK3.out; omega
                                  case rel => exact ⟨(y654), (wrap64 (x7_3 + 1)), (by first | rfl | (simp; done) | (simp [*]; done)), H', ⟨by have := HK1.out; have := HK2.out; have := HK3.out; omega⟩, ⟨by (with_reducible repeat (first | apply Kd.R_alloc | apply Kd.R_drewN | apply Kd.R_drew)); exact HO656.out⟩, ⟨by repeat (first | (with_reducible first | exact HB.out | apply below_alloc | apply pw_below_drewN | apply below_drew1) | exact HB.out)⟩⟩
                                · rw [if_neg c17] at H
                                  exact absurd H (by simp)
                            · replace c11 := Bool.eq_false_iff.mpr c11
                              subst c11
                              have H1 : (if x3_3.length < 8796093022208 then (sennitref07_union.l2 k3 l0 (x3_3 ++ [rdOf ByteArray.empty (rd_L1 l0 x4_1) x7_3]) x4_1 false (wrap64 (x7_3 + 1))) else (none)) = some r := by rw [if_neg (show ¬ (false = true) by decide)] at H; exact H
                              clear H
                              have H := H1
                              clear H1
                              by_cases c19 : x3_3.length < 8796093022208
                              · rw [if_pos c19] at H
                                have LMc19 := Aside0.mk c19
                                clear c19
                                obtain ⟨y657, hy657⟩ : ∃ y_ : List ByteArray, y_ = (x3_3 ++ [rdOf ByteArray.empty (rd_L1 l0 x4_1) x7_3]) := ⟨_, rfl⟩
                                replace H : (sennitref07_union.l2 k3 l0 y657 x4_1 false (wrap64 (x7_3 + 1))) = some r := by first | (rw [hy657]; with_reducible exact H) | (have H2_ := (Option.bind_some _ _).symm.trans H; rw [hy657]; with_reducible exact H2_) | (have H2_ := (Option.bind_some _ _).symm.trans H; with_reducible exact H2_) | with_reducible exact H | (rw [hy657]; exact H) | exact H
                                have Ny657 := Aside0.mk hy657
                                clear hy657
                                have H' := Aside0.mk H
                                clear H
                                have p645 : 0 ≤ (x4_1 : Int) := of_decide_eq_true (by first | (with_reducible assumption) | assumption)
                                have q645 : x4_1 < (l0.length : Int) := of_decide_eq_true (by first | (with_reducible assumption) | assumption)
                                obtain ⟨ad645, A645_0, c645_0, e645, hx645_0, hl645_0, hi645_0⟩ := at_L1 HR0.out x4_1 p645 q645
                                cases e645
                                replace hx645_0 := (HB.out.cell (World.block_lt_of_cell? w _ hx645_0)).trans hx645_0
                                have HR645_0 := Aside0.mk hi645_0
                                have HC645_0 := Aside0.mk hl645_0
                                clear hi645_0 hl645_0
                                replace p645 := eq_true p645
                                replace q645 := eq_true q645
                                have p646 : 0 ≤ (x4_1 : Int) := of_decide_eq_true (by first | (with_reducible assumption) | assumption)
                                have q646 : x4_1 < (l0.length : Int) := of_decide_eq_true (by first | (with_reducible assumption) | assumption)
                                obtain ⟨ad646, A646_0, c646_0, e646, hx646_0, hl646_0, hi646_0⟩ := at_L1 HR0.out x4_1 p646 q646
                                obtain rfl : ad645 = ad646 := (by injection e646)
                                replace hx646_0 := (HB.out.cell (World.block_lt_of_cell? w _ hx646_0)).trans hx646_0
                                have HR646_0 := Aside0.mk hi646_0
                                have HC646_0 := Aside0.mk hl646_0
                                clear hi646_0 hl646_0
                                replace p646 := eq_true p646
                                replace q646 := eq_true q646
                                have ea_ := Option.some.inj (hx645_0.symm.trans hx646_0)
                                injection ea_ with ea_ en_ ec_
                                subst ea_
                                subst ec_
                                clear en_
                                have p647 : 0 ≤ (x7_3 : Int) := of_decide_eq_true (by first | (with_reducible assumption) | assumption)
                                have q647 : x7_3 < ((rd_L1 l0 x4_1).length : Int) := of_decide_eq_true (by first | (with_reducible assumption) | assumption)
                                obtain ⟨ad647, e647, hx647_0⟩ := Kd.at_string HR646_0.out x7_3 p647 q647
                                cases e647
                                replace hx647_0 := (HB.out.cell (World.block_lt_of_cell? w _ hx647_0)).trans hx647_0
                                replace p647 := eq_true p647
                                replace q647 := eq_true q647
                                have p648 : 0 ≤ (x4_1 : Int) := of_decide_eq_true (by first | (with_reducible assumption) | assumption)
                                have q648 : x4_1 < (l0.length : Int) := of_decide_eq_true (by first | (with_reducible assumption) | assumption)
                                obtain ⟨ad648, A648_0, c648_0, e648, hx648_0, hl648_0, hi648_0⟩ := at_L1 HR0.out x4_1 p648 q648
                                obtain rfl : ad645 = ad648 := (by injection e648)
                                replace hx648_0 := (HB.out.cell (World.block_lt_of_cell? w _ hx648_0)).trans hx648_0
                                have HR648_0 := Aside0.mk hi648_0
                                have HC648_0 := Aside0.mk hl648_0
                                clear hi648_0 hl648_0
                                replace p648 := eq_true p648
                                replace q648 := eq_true q648
                                have ea_ := Option.some.inj (hx645_0.symm.trans hx648_0)
                                injection ea_ with ea_ en_ ec_
                                subst ea_
                                subst ec_
                                clear en_
                                go_wp2_with (first | ((with_reducible refine gate_builtin (b := .append) (xs := #[.tmp 68, .tmp 70]) rfl ?_); (try (refine gate_guard (by rfl) ?_; dsimp only)); at_builtin; refine Kd.R_append Kd.string (w0 := w) w.heap.size rfl (.tmp 68) (.tmp 70) 22 9 (.string ⟨#[]⟩) 16 rfl Try.underlying22 info9 rfl (by decide) (by omega) u3 x3_3 (rdOf ByteArray.empty (rd_L1 l0 x4_1) x7_3) [.string (rdOf ByteArray.empty (rd_L1 l0 x4_1) x7_3)] (fun _ => True) (fun _ => False) rfl rfl ?aP (fun _ hk => hk.elim) ?aF ?aO ?aB ?aS ?aL ?_; (case aP => exact rfl); (case aB => exact (by repeat (first | (with_reducible first | exact HB.out | apply below_alloc | apply pw_below_drewN | apply below_drew1) | exact HB.out))); (case aF => exact (fun _ _ => trivial)); (case aO => exact (by (with_reducible repeat (first | apply Kd.R_alloc | apply Kd.R_drewN | apply Kd.R_drew)); exact HO_3.out)); (case aS => exact (below_size (by repeat (first | (with_reducible first | exact HB.out | apply below_alloc | apply pw_below_drewN | apply below_drew1) | exact HB.out)))); (case aL => have := LMc19.out; omega); intro v658 w20 ho hb hg hat; rw [← Ny657.out] at ho; have n0_ := Aside0.mk (hb); have n1_ := Aside0.mk (ho); clear HB; clear HO_3; have HB := n0_; have HO659 := n1_; clear n0_ n1_; clear ho hb hg hat))
                                go_roundg k3
                                case measure => have := HK1.out; have := HK2.out; have := HK3.out; omega
                                case rel => exact ⟨(y657), (wrap64 (x7_3 + 1)), (by first | rfl | (simp; done) | (simp [*]; done)), H', ⟨by have := HK1.out; have := HK2.out; have := HK3.out; omega⟩, ⟨by (with_reducible repeat (first | apply Kd.R_alloc | apply Kd.R_drewN | apply Kd.R_drew)); exact HO659.out⟩, ⟨by repeat (first | (with_reducible first | exact HB.out | apply below_alloc | apply pw_below_drewN | apply below_drew1) | exact HB.out)⟩⟩
                              · rw [if_neg c19] at H
                                exact absurd H (by simp)
                          · rw [if_neg c10] at H
                            have c10b0 : (x7_3 == (wrap64 (((rd_L1 l0 x4_1).length : Int) - 1))) = false := beq_eq_false_iff_ne.mpr c10
                            have c10b1 : (x7_3 != (wrap64 (((rd_L1 l0 x4_1).length : Int) - 1))) = true := bne_iff_ne.mpr c10
                            by_cases c21 : x3_3.length < 8796093022208
                            · rw [if_pos c21] at H
                              have LMc21 := Aside0.mk c21
                              clear c21
                              obtain ⟨y660, hy660⟩ : ∃ y_ : List ByteArray, y_ = (x3_3 ++ [rdOf ByteArray.empty (rd_L1 l0 x4_1) x7_3]) := ⟨_, rfl⟩
                              replace H : (sennitref07_union.l2 k3 l0 y660 x4_1 x5_2 (wrap64 (x7_3 + 1))) = some r := by first | (rw [hy660]; with_reducible exact H) | (have H2_ := (Option.bind_some _ _).symm.trans H; rw [hy660]; with_reducible exact H2_) | (have H2_ := (Option.bind_some _ _).symm.trans H; with_reducible exact H2_) | with_reducible exact H | (rw [hy660]; exact H) | exact H
                              have Ny660 := Aside0.mk hy660
                              clear hy660
                              have H' := Aside0.mk H
                              clear H
                              have p645 : 0 ≤ (x4_1 : Int) := of_decide_eq_true (by first | (with_reducible assumption) | assumption)
                              have q645 : x4_1 < (l0.length : Int) := of_decide_eq_true (by first | (with_reducible assumption) | assumption)
                              obtain ⟨ad645, A645_0, c645_0, e645, hx645_0, hl645_0, hi645_0⟩ := at_L1 HR0.out x4_1 p645 q645
                              cases e645
                              replace hx645_0 := (HB.out.cell (World.block_lt_of_cell? w _ hx645_0)).trans hx645_0
                              have HR645_0 := Aside0.mk hi645_0
                              have HC645_0 := Aside0.mk hl645_0
                              clear hi645_0 hl645_0
                              replace p645 := eq_true p645
                              replace q645 := eq_true q645
                              have p646 : 0 ≤ (x4_1 : Int) := of_decide_eq_true (by first | (with_reducible assumption) | assumption)
                              have q646 : x4_1 < (l0.length : Int) := of_decide_eq_true (by first | (with_reducible assumption) | assumption)
                              obtain ⟨ad646, A646_0, c646_0, e646, hx646_0, hl646_0, hi646_0⟩ := at_L1 HR0.out x4_1 p646 q646
                              obtain rfl : ad645 = ad646 := (by injection e646)
                              replace hx646_0 := (HB.out.cell (World.block_lt_of_cell? w _ hx646_0)).trans hx646_0
                              have HR646_0 := Aside0.mk hi646_0
                              have HC646_0 := Aside0.mk hl646_0
                              clear hi646_0 hl646_0
                              replace p646 := eq_true p646
                              replace q646 := eq_true q646
                              have ea_ := Option.some.inj (hx645_0.symm.trans hx646_0)
                              injection ea_ with ea_ en_ ec_
                              subst ea_
                              subst ec_
                              clear en_
                              have p647 : 0 ≤ (x7_3 : Int) := of_decide_eq_true (by first | (with_reducible assumption) | assumption)
                              have q647 : x7_3 < ((rd_L1 l0 x4_1).length : Int) := of_decide_eq_true (by first | (with_reducible assumption) | assumption)
                              obtain ⟨ad647, e647, hx647_0⟩ := Kd.at_string HR646_0.out x7_3 p647 q647
                              cases e647
                              replace hx647_0 := (HB.out.cell (World.block_lt_of_cell? w _ hx647_0)).trans hx647_0
                              replace p647 := eq_true p647
                              replace q647 := eq_true q647
                              have p648 : 0 ≤ (x4_1 : Int) := of_decide_eq_true (by first | (with_reducible assumption) | assumption)
                              have q648 : x4_1 < (l0.length : Int) := of_decide_eq_true (by first | (with_reducible assumption) | assumption)
                              obtain ⟨ad648, A648_0, c648_0, e648, hx648_0, hl648_0, hi648_0⟩ := at_L1 HR0.out x4_1 p648 q648
                              obtain rfl : ad645 = ad648 := (by injection e648)
                              replace hx648_0 := (HB.out.cell (World.block_lt_of_cell? w _ hx648_0)).trans hx648_0
                              have HR648_0 := Aside0.mk hi648_0
                              have HC648_0 := Aside0.mk hl648_0
                              clear hi648_0 hl648_0
                              replace p648 := eq_true p648
                              replace q648 := eq_true q648
                              have ea_ := Option.some.inj (hx645_0.symm.trans hx648_0)
                              injection ea_ with ea_ en_ ec_
                              subst ea_
                              subst ec_
                              clear en_
                              go_wp2_with (first | ((with_reducible refine gate_builtin (b := .append) (xs := #[.tmp 68, .tmp 70]) rfl ?_); (try (refine gate_guard (by rfl) ?_; dsimp only)); at_builtin; refine Kd.R_append Kd.string (w0 := w) w.heap.size rfl (.tmp 68) (.tmp 70) 22 9 (.string ⟨#[]⟩) 16 rfl Try.underlying22 info9 rfl (by decide) (by omega) u3 x3_3 (rdOf ByteArray.empty (rd_L1 l0 x4_1) x7_3) [.string (rdOf ByteArray.empty (rd_L1 l0 x4_1) x7_3)] (fun _ => True) (fun _ => False) rfl rfl ?aP (fun _ hk => hk.elim) ?aF ?aO ?aB ?aS ?aL ?_; (case aP => exact rfl); (case aB => exact (by repeat (first | (with_reducible first | exact HB.out | apply below_alloc | apply pw_below_drewN | apply below_drew1) | exact HB.out))); (case aF => exact (fun _ _ => trivial)); (case aO => exact (by (with_reducible repeat (first | apply Kd.R_alloc | apply Kd.R_drewN | apply Kd.R_drew)); exact HO_3.out)); (case aS => exact (below_size (by repeat (first | (with_reducible first | exact HB.out | apply below_alloc | apply pw_below_drewN | apply below_drew1) | exact HB.out)))); (case aL => have := LMc21.out; omega); intro v661 w22 ho hb hg hat; rw [← Ny660.out] at ho; have n0_ := Aside0.mk (hb); have n1_ := Aside0.mk (ho); clear HB; clear HO_3; have HB := n0_; have HO662 := n1_; clear n0_ n1_; clear ho hb hg hat))
                              go_roundg k3
                              case measure => have := HK1.out; have := HK2.out; have := HK3.out; omega
                              case rel => exact ⟨(y660), (wrap64 (x7_3 + 1)), (by first | rfl | (simp; done) | (simp [*]; done)), H', ⟨by have := HK1.out; have := HK2.out; have := HK3.out; omega⟩, ⟨by (with_reducible repeat (first | apply Kd.R_alloc | apply Kd.R_drewN | apply Kd.R_drew)); exact HO662.out⟩, ⟨by repeat (first | (with_reducible first | exact HB.out | apply below_alloc | apply pw_below_drewN | apply below_drew1) | exact HB.out)⟩⟩
                            · rw [if_neg c21] at H
                              exact absurd H (by simp)
                        · rw [if_neg c9] at H
                          exact absurd H (by simp)
                      · rw [if_neg c8] at H
                        have c8b0 : decide (x7_3 < ((rd_L1 l0 x4_1).length : Int)) = false := decide_eq_false c8
                        clear c8
                        have H' := Aside0.mk H
                        clear H
                        have p645 : 0 ≤ (x4_1 : Int) := of_decide_eq_true (by first | (with_reducible assumption) | assumption)
                        have q645 : x4_1 < (l0.length : Int) := of_decide_eq_true (by first | (with_reducible assumption) | assumption)
                        obtain ⟨ad645, A645_0, c645_0, e645, hx645_0, hl645_0, hi645_0⟩ := at_L1 HR0.out x4_1 p645 q645
                        cases e645
                        replace hx645_0 := (HB.out.cell (World.block_lt_of_cell? w _ hx645_0)).trans hx645_0
                        have HR645_0 := Aside0.mk hi645_0
                        have HC645_0 := Aside0.mk hl645_0
                        clear hi645_0 hl645_0
                        replace p645 := eq_true p645
                        replace q645 := eq_true q645
                        go_wp2
                        go_roundg k3
                        case measure => have := HK1.out; have := HK2.out; have := HK3.out; omega
                        case rel => exact ⟨(x3_3), (wrap64 (x4_1 + 1)), (by first | rfl | (simp; done) | (simp [*]; done)), H', ⟨by have := HK1.out; have := HK2.out; have := HK3.out; omega⟩, ⟨by (with_reducible repeat (first | apply Kd.R_alloc | apply Kd.R_drewN | apply Kd.R_drew)); exact HO_3.out⟩, ⟨by repeat (first | (with_reducible first | exact HB.out | apply below_alloc | apply pw_below_drewN | apply below_drew1) | exact HB.out)⟩⟩
                    · rw [if_neg c7] at H
                      exact absurd H (by simp)
                  · rw [if_neg c6] at H
                    exact absurd H (by simp)
      · rw [if_neg c2] at H
        have c2b0 : decide (x4_1 < (l0.length : Int)) = false := decide_eq_false c2
        clear c2
        obtain rfl := Option.some.inj H
        go_wp2
        go_ret
        exact ⟨_, by first | rfl | (simp [errW_none, errW_some] <;> rfl) | (simp [*, errW_none, errW_some] <;> rfl), by (with_reducible repeat (first | apply Kd.R_alloc | apply Kd.R_drewN | apply Kd.R_drew)); exact HO_3.out, by repeat (first | (with_reducible first | exact HB.out | apply below_alloc | apply pw_below_drewN | apply below_drew1) | exact HB.out)⟩

end Go.Proofs.Ytiaoppikdgoieaa.M
namespace Go.Proofs.Ytiaoppikdgoieaa.M
open Go.RowKit Go.Proofs.YtiaoppikdgoieaaW.PrintWords Go.Proofs.YtiaoppikdgoieaaW.PrintLast Go.Proofs.YtiaoppikdgoieaaW.PrintMore
attribute [local go_sem] max2_int min2_int max_two min_two max_three min_three max_four min_four
set_option linter.unusedVariables false
set_option linter.unusedSimpArgs false

/-! ### sennitref07_Piece: function 46 -/
def sennitref07_Piece.j0 : Nat → List ByteArray → List (List ByteArray) → List (List ByteArray) → Bool → Int → Bool → Option (Bool × List ByteArray × List ByteArray × (List (List ByteArray)))
  | 0, _, _, _, _, _, _ => none
  | k + 1, x0, x1, x7, x32, x664000, x664001 => if x32 = true then (if 0 ≤ (wrap64 (x664000 - 1)) then (if (wrap64 (x664000 - 1)) < (x1.length : Int) then (some (false, rd_L1 x1 (wrap64 (x664000 - 1)), ([] : List ByteArray), ([] : List (List ByteArray)))) else (none)) else (none)) else (if x664001 = true then ((sennitref07_union.f k x7).bind fun t670 => (some (false, t670, ([] : List ByteArray), ([] : List (List ByteArray))))) else (some (true, ([] : List ByteArray), x0, x1)))
def sennitref07_Piece.f (k : Nat) (l0 : List ByteArray) (l1 : List (List ByteArray)) (a2_0 : Int) (a2_1 : Bool) : Option (Bool × List ByteArray × List ByteArray × (List (List ByteArray))) := (sennitref06_Differing.f k l0 l1).bind fun t665 => (if (t665.length : Int) = 0 then (some (false, l0, ([] : List ByteArray), ([] : List (List ByteArray)))) else (if (t665.length : Int) = 1 then (if 0 < (t665.length : Int) then (some (false, rd_L1 t665 0, ([] : List ByteArray), ([] : List (List ByteArray)))) else (none)) else (if a2_0 > 0 then (sennitref07_Piece.j0 k l0 l1 t665 (decide (a2_0 ≤ (l1.length : Int))) a2_0 a2_1) else (sennitref07_Piece.j0 k l0 l1 t665 false a2_0 a2_1))))
theorem sennitref07_Piece.mono_l : ∀ k, (∀ y0 y1 y2 y3 y4 y5, LeO (sennitref07_Piece.j0 k y0 y1 y2 y3 y4 y5) (sennitref07_Piece.j0 (k + 1) y0 y1 y2 y3 y4 y5))
  | 0 => fun _ _ _ _ _ _ r h => by simp [sennitref07_Piece.j0] at h
  | k + 1 => by
    have ih0 := sennitref07_Piece.mono_l k
    · intro y0 y1 y2 y3 y4 y5
      unfold sennitref07_Piece.j0
      repeat' first
      | (with_reducible exact ih0 _ _ _ _ _ _)
      | (with_reducible exact sennitref06_Differing.mono _ _ _)
      | (with_reducible exact sennitref07_union.mono _ _)
      | (with_reducible exact LeO.refl _)
      | (with_reducible exact LeO.none _)
      | (with_reducible refine LeO.ite ?_ ?_)
      | (with_reducible refine LeO.bind ?_ (fun _ => ?_))
      | exact ih0 _ _ _ _ _ _
      | exact sennitref06_Differing.mono _ _ _
      | exact sennitref07_union.mono _ _
      | exact LeO.none _
      | refine LeO.ite ?_ ?_
      | refine LeO.bind ?_ (fun _ => ?_)
theorem sennitref07_Piece.mono : ∀ a0 a1 a2 a3 k, LeO (sennitref07_Piece.f k a0 a1 a2 a3) (sennitref07_Piece.f (k + 1) a0 a1 a2 a3) := by
  intro a0 a1 a2 a3 k
  have ih0 := sennitref07_Piece.mono_l k
  unfold sennitref07_Piece.f
  repeat' first
      | (with_reducible exact ih0 _ _ _ _ _ _)
      | (with_reducible exact sennitref06_Differing.mono _ _ _)
      | (with_reducible exact sennitref07_union.mono _ _)
      | (with_reducible exact LeO.refl _)
      | (with_reducible exact LeO.none _)
      | (with_reducible refine LeO.ite ?_ ?_)
      | (with_reducible refine LeO.bind ?_ (fun _ => ?_))
      | exact ih0 _ _ _ _ _ _
      | exact sennitref06_Differing.mono _ _ _
      | exact sennitref07_union.mono _ _
      | exact LeO.none _
      | refine LeO.ite ?_ ?_
      | refine LeO.bind ?_ (fun _ => ?_)
set_option maxHeartbeats 8000000 in
set_option maxRecDepth 100000 in
theorem sennitref07_Piece.calls (k : Nat) (P0_ : Nat → Prop) (A0 : Option Addr) (c0 : Nat) (l0 : List ByteArray) (P1_ : Nat → Prop) (A1 : Option Addr) (c1 : Nat) (l1 : List (List ByteArray)) (a2_0 : Int) (a2_1 : Bool) (r1 : Bool) (r2 : List ByteArray) (r3 : List ByteArray) (r4 : List (List ByteArray)) (w : World) (hs0 : Kd.V Kd.string 9 w w.heap.size (fun k_ => P0_ k_) (.slice A0 l0.length c0) l0) (hs1 : Kd.V (Kd.slice 9 Kd.string) 22 w w.heap.size (fun k_ => P1_ k_) (.slice A1 l1.length c1) l1) (h : sennitref07_Piece.f k l0 l1 a2_0 a2_1 = some (r1, r2, r3, r4)) :
    Calls Try.prog 46 #[.slice A0 l0.length c0, .slice A1 l1.length c1, .agg #[.int .i64 a2_0, .bool a2_1]] w fun e w' => ∃ v1_ v2_ v3_ : Value, e = .returned (.agg #[.bool r1, v1_, v2_, v3_]) ∧ Kd.V Kd.string 9 w' w.heap.size (fun k_ => ((P0_ k_ ∨ P1_ k_) ∨ w.heap.size ≤ k_)) v1_ r2 ∧ Kd.V Kd.string 9 w' w.heap.size (fun k_ => ((P0_ k_ ∨ P1_ k_) ∨ w.heap.size ≤ k_)) v2_ r3 ∧ Kd.V (Kd.slice 9 Kd.string) 22 w' w.heap.size (fun k_ => ((P0_ k_ ∨ P1_ k_) ∨ w.heap.size ≤ k_)) v3_ r4 ∧ Below w.heap.size w w' := by
  have hu30 := Try.underlying30
  have hu27 := Try.underlying27
  have HO0 := Aside0.mk (show Kd.V Kd.string 9 w w.heap.size (fun k_ => ((P0_ k_ ∨ P1_ k_) ∨ w.heap.size ≤ k_)) (.slice A0 l0.length c0) l0 from Kd.V_mono hs0 (fun k_ hk => .inl (.inl hk)))
  have HO1 := Aside0.mk (show Kd.V (Kd.slice 9 Kd.string) 22 w w.heap.size (fun k_ => ((P0_ k_ ∨ P1_ k_) ∨ w.heap.size ≤ k_)) (.slice A1 l1.length c1) l1 from Kd.V_mono hs1 (fun k_ hk => .inl (.inr hk)))
  have HB := Aside0.mk (Below.refl w.heap.size w)
  have H : ((sennitref06_Differing.f k l0 l1).bind fun t665 => (if (t665.length : Int) = 0 then (some (false, l0, ([] : List ByteArray), ([] : List (List ByteArray)))) else (if (t665.length : Int) = 1 then (if 0 < (t665.length : Int) then (some (false, rd_L1 t665 0, ([] : List ByteArray), ([] : List (List ByteArray)))) else (none)) else (if a2_0 > 0 then (sennitref07_Piece.j0 k l0 l1 t665 (decide (a2_0 ≤ (l1.length : Int))) a2_0 a2_1) else (sennitref07_Piece.j0 k l0 l1 t665 false a2_0 a2_1))))) = some (r1, r2, r3, r4) := h
  clear h
  replace H := Option.bind_eq_some_iff.mp H
  obtain ⟨t665, A40, H⟩ := H
  replace H : (if (t665.length : Int) = 0 then (some (false, l0, ([] : List ByteArray), ([] : List (List ByteArray)))) else (if (t665.length : Int) = 1 then (if 0 < (t665.length : Int) then (some (false, rd_L1 t665 0, ([] : List ByteArray), ([] : List (List ByteArray)))) else (none)) else (if a2_0 > 0 then (sennitref07_Piece.j0 k l0 l1 t665 (decide (a2_0 ≤ (l1.length : Int))) a2_0 a2_1) else (sennitref07_Piece.j0 k l0 l1 t665 false a2_0 a2_1)))) = some (r1, r2, r3, r4) := H
  have A4 := Aside0.mk A40
  clear A40
  by_cases c5 : (t665.length : Int) = 0
  · rw [if_pos c5] at H
    have c5b0 : ((t665.length : Int) == 0) = true := beq_iff_eq.mpr c5
    have c5b1 : ((t665.length : Int) != 0) = false := bne_eq_false_iff_eq.mpr c5
    clear c5
    simp only [Option.some.injEq, Prod.mk.injEq] at H
    obtain ⟨rfl, rfl, rfl, rfl⟩ := H
    go_enter Try.func46, Try.ntmps46
    go_wp2_with (first | ((with_reducible refine gate_dst (N := 5) rfl ?_); (try (refine gate_guard (by rfl) ?_; dsimp only)); refine box_event ?hg (N := 5) ?hd (cs := #[.int .i64 a2_0, .bool a2_1]) (t := 30) ?hr ?_; (case hd => rfl); (case hg => rfl); (case hr => first | (go_simp; done) | (go_simp; rfl)); intro gb663 hg w6 hbox hb; have n0_ := Aside0.mk (Kd.V_below (Kd.V_elderB (by (with_reducible repeat (first | apply Kd.V_alloc | apply Kd.V_drewN | apply Kd.V_drew)); exact HO0.out) gb663 (Nat.le_of_eq hg.symm)) hb); have n1_ := Aside0.mk (Kd.V_below (Kd.V_elderB (by (with_reducible repeat (first | apply Kd.V_alloc | apply Kd.V_drewN | apply Kd.V_drew)); exact HO1.out) gb663 (Nat.le_of_eq hg.symm)) hb); have n2_ := Aside0.mk (below_step (by repeat (first | (with_reducible first | exact HB.out | apply below_alloc | apply pw_below_drewN | apply below_drew1) | exact HB.out)) hb); have n3_ := Aside0.mk (hbox); have n4_ := Aside0.mk ((by rw [hg]; exact (below_size (by repeat (first | (with_reducible first | exact HB.out | apply below_alloc | apply pw_below_drewN | apply below_drew1) | exact HB.out))) : w.heap.size ≤ gb663)); have n5_ := Aside0.mk ((by rw [hg]; exact (below_size (by repeat (first | (with_reducible first | exact HB.out | apply below_alloc | apply pw_below_drewN | apply below_drew1) | exact HB.out))) : w.heap.size ≤ gb663)); clear HO0; clear HO1; clear HB; have HO0 := n0_; have HO1 := n1_; have HB := n2_; have BK663 := n3_; have GW663 := n4_; have GE663 := n5_; clear n0_ n1_ n2_ n3_ n4_ n5_; clear hb hbox hg) | ((with_reducible refine gate_dst (N := 6) rfl ?_); (try (refine gate_guard (by rfl) ?_; dsimp only)); refine box_event ?hg (N := 6) ?hd (cs := #[.bool false, .slice none 0 0, .slice none 0 0, .slice none 0 0]) (t := 27) ?hr ?_; (case hd => rfl); (case hg => rfl); (case hr => first | (go_simp; done) | (go_simp; rfl)); intro gb664 hg w7 hbox hb; have n0_ := Aside0.mk (Kd.V_below (Kd.V_elderB (by (with_reducible repeat (first | apply Kd.V_alloc | apply Kd.V_drewN | apply Kd.V_drew)); exact HO0.out) gb664 (Nat.le_of_eq hg.symm)) hb); have n1_ := Aside0.mk (Kd.V_below (Kd.V_elderB (by (with_reducible repeat (first | apply Kd.V_alloc | apply Kd.V_drewN | apply Kd.V_drew)); exact HO1.out) gb664 (Nat.le_of_eq hg.symm)) hb); have n2_ := Aside0.mk (blk_below (g := gb663) (o := .cells #[.int .i64 a2_0, .bool a2_1] 30 (0, 0)) (by (with_reducible repeat (first | refine blk_drewN ?_ _ | refine blk_drew ?_ | refine blk_alloc ?_ _)); exact BK663.out) hb); have n3_ := Aside0.mk (below_step (by repeat (first | (with_reducible first | exact HB.out | apply below_alloc | apply pw_below_drewN | apply below_drew1 | refine below_set ?_ GE663.out) | exact HB.out)) hb); have n4_ := Aside0.mk (hbox); have n5_ := Aside0.mk ((by rw [hg]; exact (below_size (by repeat (first | (with_reducible first | exact HB.out | apply below_alloc | apply pw_below_drewN | apply below_drew1 | refine below_set ?_ GE663.out) | exact HB.out))) : w.heap.size ≤ gb664)); have n6_ := Aside0.mk ((by rw [hg]; exact (below_size (by repeat (first | (with_reducible first | exact HB.out | apply below_alloc | apply pw_below_drewN | apply below_drew1 | refine below_set ?_ GE663.out) | exact HB.out))) : w.heap.size ≤ gb664)); have n7_ := Aside0.mk ((by rw [hg]; exact Nat.ne_of_lt (blk_lt (g := gb663) (o := .cells #[.int .i64 a2_0, .bool a2_1] 30 (0, 0)) (by (with_reducible repeat (first | refine blk_drewN ?_ _ | refine blk_drew ?_ | refine blk_alloc ?_ _)); exact BK663.out)) : gb663 ≠ gb664)); have n8_ := Aside0.mk ((by rw [hg]; exact Nat.ne_of_gt (blk_lt (g := gb663) (o := .cells #[.int .i64 a2_0, .bool a2_1] 30 (0, 0)) (by (with_reducible repeat (first | refine blk_drewN ?_ _ | refine blk_drew ?_ | refine blk_alloc ?_ _)); exact BK663.out)) : gb664 ≠ gb663)); clear HO0; clear HO1; clear BK663; clear HB; have HO0 := n0_; have HO1 := n1_; have BK663 := n2_; have HB := n3_; have BK664 := n4_; have GW664 := n5_; have GE664 := n6_; have NB663_664 := n7_; have NB664_663 := n8_; clear n0_ n1_ n2_ n3_ n4_ n5_ n6_ n7_ n8_; clear hb hbox hg) | ((with_reducible refine gate_callee (f := 22) rfl ?_); refine goesL_ (some 10) rfl rfl Try.func22 (by kernel_rfl) rfl #[.slice A0 l0.length c0, .slice A1 l1.length c1] rfl (by (try simp only [List.map_toArray, List.map_cons, List.map_nil]); first | done | rfl | (simp only [List.length_drop, List.length_take]; rfl)) ?_; (with_reducible refine (sennitref06_Differing.calls k _ _ l0 (fun k_ => ((((P0_ k_ ∨ P1_ k_) ∨ w.heap.size ≤ k_) ∧ k_ ≠ gb663) ∧ k_ ≠ gb664)) _ _ l1 t665 _ ?side1 ?side2 ?side3 A4.out).mono ?_); (case side1 => repeat (first | exact (Kd.V_reads' HO0.out).2.2 | (with_reducible refine Kd.C_alloc ?_ _) | (with_reducible refine Kd.C_drewN ?_ _) | (with_reducible refine Kd.C_drew ?_))); (case side2 => exact (Kd.V_reads' HO0.out).2.1); (case side3 => exact HO1.out); rintro e w8 ⟨v666, rfl, ho0, hb⟩; refine ⟨_, rfl, ?_⟩; have n0_ := Aside0.mk (Kd.V_elder' (by (with_reducible repeat (first | apply Kd.V_alloc | apply Kd.V_drewN | apply Kd.V_drew)); exact HO0.out) (Kd.N_base ho0) hb); have n1_ := Aside0.mk (Kd.V_elder' (by (with_reducible repeat (first | apply Kd.V_alloc | apply Kd.V_drewN | apply Kd.V_drew)); exact HO1.out) (Kd.N_base ho0) hb); have n2_ := Aside0.mk (Kd.N_lower (Kd.N_mono (ok' := fun k_ => ((P0_ k_ ∨ P1_ k_) ∨ w.heap.size ≤ k_) ∧ k_ ≠ gb663 ∧ k_ ≠ gb664) ho0 (fun k_ hk_ => ⟨Or.elim hk_ (fun hs_ => hs_.1.1) (fun hn_ => (.inr (Nat.le_trans (below_size (by repeat (first | (with_reducible first | exact HB.out | apply below_alloc | apply pw_below_drewN | apply below_drew1 | refine below_set ?_ GE663.out | refine below_set ?_ GE664.out) | exact HB.out))) hn_))), Or.elim hk_ (fun hs_ => hs_.1.2) (fun hn_ => (Kd.freshB (g := gb663) (o := .cells #[.int .i64 a2_0, .bool a2_1] 30 (0, 0)) (by (with_reducible repeat (first | refine blk_drewN ?_ _ | refine blk_drew ?_ | refine blk_alloc ?_ _)); exact BK663.out) k_ hn_)), Or.elim hk_ (fun hs_ => hs_.2) (fun hn_ => (Kd.freshB (g := gb664) (o := .cells #[.bool false, .slice none 0 0, .slice none 0 0, .slice none 0 0] 27 (0, 0)) (by (with_reducible repeat (first | refine blk_drewN ?_ _ | refine blk_drew ?_ | refine blk_alloc ?_ _)); exact BK664.out) k_ hn_))⟩)) (below_size (by repeat (first | (with_reducible first | exact HB.out | apply below_alloc | apply pw_below_drewN | apply below_drew1 | refine below_set ?_ GE663.out | refine below_set ?_ GE664.out) | exact HB.out)))); have n3_ := Aside0.mk (blk_below (g := gb663) (o := .cells #[.int .i64 a2_0, .bool a2_1] 30 (0, 0)) (by (with_reducible repeat (first | refine blk_drewN ?_ _ | refine blk_drew ?_ | refine blk_alloc ?_ _)); exact BK663.out) hb); have n4_ := Aside0.mk (blk_below (g := gb664) (o := .cells #[.bool false, .slice none 0 0, .slice none 0 0, .slice none 0 0] 27 (0, 0)) (by (with_reducible repeat (first | refine blk_drewN ?_ _ | refine blk_drew ?_ | refine blk_alloc ?_ _)); exact BK664.out) hb); have n5_ := Aside0.mk (below_step (by repeat (first | (with_reducible first | exact HB.out | apply below_alloc | apply pw_below_drewN | apply below_drew1 | refine below_set ?_ GE663.out | refine below_set ?_ GE664.out) | exact HB.out)) hb); clear HO0; clear HO1; clear BK663; clear BK664; clear HB; have HO0 := n0_; have HO1 := n1_; have HO667 := n2_; have BK663 := n3_; have BK664 := n4_; have HB := n5_; clear n0_ n1_ n2_ n3_ n4_ n5_; (try clear hb); (try clear hb2); (try clear hk); (try clear hi); (try clear ho0); obtain ⟨Ao9, co9, eo9⟩ := Kd.N_slice HO667.out; subst eo9; have hnb10 := NB664_663.out; have hnc10 := NB663_664.out; have hcz11_0 : w8.cell? ⟨gb664, 0, none⟩ = some (.bool false) := (blk_cell BK664.out 0).trans rfl; have hcz11_1 : w8.cell? ⟨gb664, 1, none⟩ = some (.slice none 0 0) := (blk_cell BK664.out 1).trans rfl; have hcz11_2 : w8.cell? ⟨gb664, 2, none⟩ = some (.slice none 0 0) := (blk_cell BK664.out 2).trans rfl; have hcz11_3 : w8.cell? ⟨gb664, 3, none⟩ = some (.slice none 0 0) := (blk_cell BK664.out 3).trans rfl; have hfz11_0 := blk_frozen BK664.out 0; have hfz11_1 := blk_frozen BK664.out 1; have hfz11_2 := blk_frozen BK664.out 2; have hfz11_3 := blk_frozen BK664.out 3))
    refine bodyPost_ret (results_cell_row rfl _ _ gb664 27 #[.bool false, .slice A0 l0.length c0, .slice none 0 0, .slice none 0 0] (0, 0) _ rfl (by (with_reducible repeat (first | refine blk_drewN ?_ _ | refine blk_drew ?_ | refine blk_alloc ?_ _)); refine blk_put (cs := #[.bool false, .slice A0 l0.length c0, .slice none 0 0, .slice none 0 0]) ?_ 3 _ rfl; (with_reducible repeat (first | refine blk_drewN ?_ _ | refine blk_drew ?_ | refine blk_alloc ?_ _)); refine blk_put (cs := #[.bool false, .slice A0 l0.length c0, .slice none 0 0, .slice none 0 0]) ?_ 2 _ rfl; (with_reducible repeat (first | refine blk_drewN ?_ _ | refine blk_drew ?_ | refine blk_alloc ?_ _)); refine blk_put (cs := #[.bool false, .slice none 0 0, .slice none 0 0, .slice none 0 0]) ?_ 1 _ rfl; (with_reducible repeat (first | refine blk_drewN ?_ _ | refine blk_drew ?_ | refine blk_alloc ?_ _)); refine blk_put (cs := #[.bool false, .slice none 0 0, .slice none 0 0, .slice none 0 0]) ?_ 0 _ rfl; (with_reducible repeat (first | refine blk_drewN ?_ _ | refine blk_drew ?_ | refine blk_alloc ?_ _)); exact BK664.out) Try.underlying27 rfl (by kernel_rfl)) rfl ?_
    exact ⟨_, _, _, by first | rfl | (simp [errW_none, errW_some] <;> rfl) | (simp [*, errW_none, errW_some] <;> rfl), by (with_reducible repeat (first | apply Kd.V_alloc | apply Kd.V_drewN | apply Kd.V_drew)); exact Kd.V_mono (Kd.V_far (p := ⟨gb664, 3, none⟩) (Kd.V_far (p := ⟨gb664, 2, none⟩) (Kd.V_far (p := ⟨gb664, 1, none⟩) (Kd.V_far (p := ⟨gb664, 0, none⟩) (Kd.V_mono HO0.out (fun k_ hk => (⟨hk, hk.1.2⟩ : _ ∧ k_ ≠ gb664))) (fun _ hk => hk.2) (.bool false)) (fun _ hk => hk.2) (.slice A0 l0.length c0)) (fun _ hk => hk.2) (.slice none 0 0)) (fun _ hk => hk.2) (.slice none 0 0)) (fun _ hk => hk.1.1.1.1), Kd.V_nil _ _ _ _ _, Kd.V_nil _ _ _ _ _, by repeat (first | (with_reducible first | exact HB.out | apply below_alloc | apply pw_below_drewN | apply below_drew1 | refine below_set ?_ GE663.out | refine below_set ?_ GE664.out) | exact HB.out)⟩
  · rw [if_neg c5] at H
    have c5b0 : ((t665.length : Int) == 0) = false := beq_eq_false_iff_ne.mpr c5
    have c5b1 : ((t665.length : Int) != 0) = true := bne_iff_ne.mpr c5
    have c5b2 : ¬ (t665 = []) := fun h_ => c5 (by rw [h_]; rfl)
    by_cases c12 : (t665.length : Int) = 1
    · rw [if_pos c12] at H
      have c12b0 : ((t665.length : Int) == 1) = true := beq_iff_eq.mpr c12
      have c12b1 : ((t665.length : Int) != 1) = false := bne_eq_false_iff_eq.mpr c12
      clear c12
      by_cases c13 : 0 < (t665.length : Int)
      · rw [if_pos c13] at H
        have c13b0 : decide (0 < (t665.length : Int)) = true := decide_eq_true c13
        have c13b1 : decide (0 < t665.length) = true := decide_eq_true (by omega)
        clear c13
        simp only [Option.some.injEq, Prod.mk.injEq] at H
        obtain ⟨rfl, rfl, rfl, rfl⟩ := H
        go_enter Try.func46, Try.ntmps46
        go_wp2_with (first | ((with_reducible refine gate_dst (N := 5) rfl ?_); (try (refine gate_guard (by rfl) ?_; dsimp only)); refine box_event ?hg (N := 5) ?hd (cs := #[.int .i64 a2_0, .bool a2_1]) (t := 30) ?hr ?_; (case hd => rfl); (case hg => rfl); (case hr => first | (go_simp; done) | (go_simp; rfl)); intro gb663 hg w14 hbox hb; have n0_ := Aside0.mk (Kd.V_below (Kd.V_elderB (by (with_reducible repeat (first | apply Kd.V_alloc | apply Kd.V_drewN | apply Kd.V_drew)); exact HO0.out) gb663 (Nat.le_of_eq hg.symm)) hb); have n1_ := Aside0.mk (Kd.V_below (Kd.V_elderB (by (with_reducible repeat (first | apply Kd.V_alloc | apply Kd.V_drewN | apply Kd.V_drew)); exact HO1.out) gb663 (Nat.le_of_eq hg.symm)) hb); have n2_ := Aside0.mk (below_step (by repeat (first | (with_reducible first | exact HB.out | apply below_alloc | apply pw_below_drewN | apply below_drew1) | exact HB.out)) hb); have n3_ := Aside0.mk (hbox); have n4_ := Aside0.mk ((by rw [hg]; exact (below_size (by repeat (first | (with_reducible first | exact HB.out | apply below_alloc | apply pw_below_drewN | apply below_drew1) | exact HB.out))) : w.heap.size ≤ gb663)); have n5_ := Aside0.mk ((by rw [hg]; exact (below_size (by repeat (first | (with_reducible first | exact HB.out | apply below_alloc | apply pw_below_drewN | apply below_drew1) | exact HB.out))) : w.heap.size ≤ gb663)); clear HO0; clear HO1; clear HB; have HO0 := n0_; have HO1 := n1_; have HB := n2_; have BK663 := n3_; have GW663 := n4_; have GE663 := n5_; clear n0_ n1_ n2_ n3_ n4_ n5_; clear hb hbox hg) | ((with_reducible refine gate_dst (N := 6) rfl ?_); (try (refine gate_guard (by rfl) ?_; dsimp only)); refine box_event ?hg (N := 6) ?hd (cs := #[.bool false, .slice none 0 0, .slice none 0 0, .slice none 0 0]) (t := 27) ?hr ?_; (case hd => rfl); (case hg => rfl); (case hr => first | (go_simp; done) | (go_simp; rfl)); intro gb664 hg w15 hbox hb; have n0_ := Aside0.mk (Kd.V_below (Kd.V_elderB (by (with_reducible repeat (first | apply Kd.V_alloc | apply Kd.V_drewN | apply Kd.V_drew)); exact HO0.out) gb664 (Nat.le_of_eq hg.symm)) hb); have n1_ := Aside0.mk (Kd.V_below (Kd.V_elderB (by (with_reducible repeat (first | apply Kd.V_alloc | apply Kd.V_drewN | apply Kd.V_drew)); exact HO1.out) gb664 (Nat.le_of_eq hg.symm)) hb); have n2_ := Aside0.mk (blk_below (g := gb663) (o := .cells #[.int .i64 a2_0, .bool a2_1] 30 (0, 0)) (by (with_reducible repeat (first | refine blk_drewN ?_ _ | refine blk_drew ?_ | refine blk_alloc ?_ _)); exact BK663.out) hb); have n3_ := Aside0.mk (below_step (by repeat (first | (with_reducible first | exact HB.out | apply below_alloc | apply pw_below_drewN | apply below_drew1 | refine below_set ?_ GE663.out) | exact HB.out)) hb); have n4_ := Aside0.mk (hbox); have n5_ := Aside0.mk ((by rw [hg]; exact (below_size (by repeat (first | (with_reducible first | exact HB.out | apply below_alloc | apply pw_below_drewN | apply below_drew1 | refine below_set ?_ GE663.out) | exact HB.out))) : w.heap.size ≤ gb664)); have n6_ := Aside0.mk ((by rw [hg]; exact (below_size (by repeat (first | (with_reducible first | exact HB.out | apply below_alloc | apply pw_below_drewN | apply below_drew1 | refine below_set ?_ GE663.out) | exact HB.out))) : w.heap.size ≤ gb664)); have n7_ := Aside0.mk ((by rw [hg]; exact Nat.ne_of_lt (blk_lt (g := gb663) (o := .cells #[.int .i64 a2_0, .bool a2_1] 30 (0, 0)) (by (with_reducible repeat (first | refine blk_drewN ?_ _ | refine blk_drew ?_ | refine blk_alloc ?_ _)); exact BK663.out)) : gb663 ≠ gb664)); have n8_ := Aside0.mk ((by rw [hg]; exact Nat.ne_of_gt (blk_lt (g := gb663) (o := .cells #[.int .i64 a2_0, .bool a2_1] 30 (0, 0)) (by (with_reducible repeat (first | refine blk_drewN ?_ _ | refine blk_drew ?_ | refine blk_alloc ?_ _)); exact BK663.out)) : gb664 ≠ gb663)); clear HO0; clear HO1; clear BK663; clear HB; have HO0 := n0_; have HO1 := n1_; have BK663 := n2_; have HB := n3_; have BK664 := n4_; have GW664 := n5_; have GE664 := n6_; have NB663_664 := n7_; have NB664_663 := n8_; clear n0_ n1_ n2_ n3_ n4_ n5_ n6_ n7_ n8_; clear hb hbox hg) | ((with_reducible refine gate_callee (f := 22) rfl ?_); refine goesL_ (some 10) rfl rfl Try.func22 (by kernel_rfl) rfl #[.slice A0 l0.length c0, .slice A1 l1.length c1] rfl (by (try simp only [List.map_toArray, List.map_cons, List.map_nil]); first | done | rfl | (simp only [List.length_drop, List.length_take]; rfl)) ?_; (with_reducible refine (sennitref06_Differing.calls k _ _ l0 (fun k_ => ((((P0_ k_ ∨ P1_ k_) ∨ w.heap.size ≤ k_) ∧ k_ ≠ gb663) ∧ k_ ≠ gb664)) _ _ l1 t665 _ ?side1 ?side2 ?side3 A4.out).mono ?_); (case side1 => repeat (first | exact (Kd.V_reads' HO0.out).2.2 | (with_reducible refine Kd.C_alloc ?_ _) | (with_reducible refine Kd.C_drewN ?_ _) | (with_reducible refine Kd.C_drew ?_))); (case side2 => exact (Kd.V_reads' HO0.out).2.1); (case side3 => exact HO1.out); rintro e w16 ⟨v666, rfl, ho0, hb⟩; refine ⟨_, rfl, ?_⟩; have n0_ := Aside0.mk (Kd.V_elder' (by (with_reducible repeat (first | apply Kd.V_alloc | apply Kd.V_drewN | apply Kd.V_drew)); exact HO0.out) (Kd.N_base ho0) hb); have n1_ := Aside0.mk (Kd.V_elder' (by (with_reducible repeat (first | apply Kd.V_alloc | apply Kd.V_drewN | apply Kd.V_drew)); exact HO1.out) (Kd.N_base ho0) hb); have n2_ := Aside0.mk (Kd.N_lower (Kd.N_mono (ok' := fun k_ => ((P0_ k_ ∨ P1_ k_) ∨ w.heap.size ≤ k_) ∧ k_ ≠ gb663 ∧ k_ ≠ gb664) ho0 (fun k_ hk_ => ⟨Or.elim hk_ (fun hs_ => hs_.1.1) (fun hn_ => (.inr (Nat.le_trans (below_size (by repeat (first | (with_reducible first | exact HB.out | apply below_alloc | apply pw_below_drewN | apply below_drew1 | refine below_set ?_ GE663.out | refine below_set ?_ GE664.out) | exact HB.out))) hn_))), Or.elim hk_ (fun hs_ => hs_.1.2) (fun hn_ => (Kd.freshB (g := gb663) (o := .cells #[.int .i64 a2_0, .bool a2_1] 30 (0, 0)) (by (with_reducible repeat (first | refine blk_drewN ?_ _ | refine blk_drew ?_ | refine blk_alloc ?_ _)); exact BK663.out) k_ hn_)), Or.elim hk_ (fun hs_ => hs_.2) (fun hn_ => (Kd.freshB (g := gb664) (o := .cells #[.bool false, .slice none 0 0, .slice none 0 0, .slice none 0 0] 27 (0, 0)) (by (with_reducible repeat (first | refine blk_drewN ?_ _ | refine blk_drew ?_ | refine blk_alloc ?_ _)); exact BK664.out) k_ hn_))⟩)) (below_size (by repeat (first | (with_reducible first | exact HB.out | apply below_alloc | apply pw_below_drewN | apply below_drew1 | refine below_set ?_ GE663.out | refine below_set ?_ GE664.out) | exact HB.out)))); have n3_ := Aside0.mk (blk_below (g := gb663) (o := .cells #[.int .i64 a2_0, .bool a2_1] 30 (0, 0)) (by (with_reducible repeat (first | refine blk_drewN ?_ _ | refine blk_drew ?_ | refine blk_alloc ?_ _)); exact BK663.out) hb); have n4_ := Aside0.mk (blk_below (g := gb664) (o := .cells #[.bool false, .slice none 0 0, .slice none 0 0, .slice none 0 0] 27 (0, 0)) (by (with_reducible repeat (first | refine blk_drewN ?_ _ | refine blk_drew ?_ | refine blk_alloc ?_ _)); exact BK664.out) hb); have n5_ := Aside0.mk (below_step (by repeat (first | (with_reducible first | exact HB.out | apply below_alloc | apply pw_below_drewN | apply below_drew1 | refine below_set ?_ GE663.out | refine below_set ?_ GE664.out) | exact HB.out)) hb); clear HO0; clear HO1; clear BK663; clear BK664; clear HB; have HO0 := n0_; have HO1 := n1_; have HO667 := n2_; have BK663 := n3_; have BK664 := n4_; have HB := n5_; clear n0_ n1_ n2_ n3_ n4_ n5_; (try clear hb); (try clear hb2); (try clear hk); (try clear hi); (try clear ho0); obtain ⟨Ao17, co17, eo17⟩ := Kd.N_slice HO667.out; subst eo17; have p668 : 0 ≤ (0 : Int) := (by omega); have q668 : 0 < (t665.length : Int) := of_decide_eq_true (by first | (with_reducible assumption) | assumption); obtain ⟨ad668, A668_0, c668_0, e668, hx668_0, hl668_0, hi668_0⟩ := at_L1 (Kd.N_reads' HO667.out).2.2 0 p668 q668; cases e668; obtain ⟨ce668, hce668, hMe668, hcc668⟩ := Kd.N_get HO667.out [] 0 p668 (by first | exact q668 | exact of_decide_eq_true (by first | (with_reducible assumption) | assumption) | (have e_ := (Kd.N_reads' HO667.out).1; omega)); obtain ⟨ua668_0, uc668_0, rfl, ul668_0, ge668_0⟩ := Kd.FK_slice_open hMe668; have hv668_0 := hcc668 0 _ rfl; rw [Nat.add_zero, show ((Kd.slice 9 Kd.string)).sz = 1 from rfl, Nat.mul_one] at hv668_0; replace hv668_0 := Option.some.inj (hv668_0.symm.trans hx668_0); injection hv668_0 with hva_ hvn_ hvc_; rw [hva_] at ge668_0; rw [hvc_] at ul668_0; have HL668_0 := Aside0.mk (show Kd.V Kd.string 9 _ w.heap.size _ _ (rd_L1 t665 0) from Kd.V_mk ul668_0 ge668_0); clear hva_ hvn_ hvc_ ge668_0 ul668_0; clear hcc668 hce668; have qi668 : (0 < t665.length) = True := eq_true (by omega); (try rw [show ((0 : Int)).toNat = 0 from rfl] at hx668_0); (try rw [Addr.add_zero'] at hx668_0); have HR668_0 := Aside0.mk hi668_0; have HC668_0 := Aside0.mk hl668_0; clear hi668_0 hl668_0; replace p668 := eq_true p668; replace q668 := eq_true q668; have hnb18 := NB664_663.out; have hnc18 := NB663_664.out; have hcz19_0 : w16.cell? ⟨gb664, 0, none⟩ = some (.bool false) := (blk_cell BK664.out 0).trans rfl; have hcz19_1 : w16.cell? ⟨gb664, 1, none⟩ = some (.slice none 0 0) := (blk_cell BK664.out 1).trans rfl; have hcz19_2 : w16.cell? ⟨gb664, 2, none⟩ = some (.slice none 0 0) := (blk_cell BK664.out 2).trans rfl; have hcz19_3 : w16.cell? ⟨gb664, 3, none⟩ = some (.slice none 0 0) := (blk_cell BK664.out 3).trans rfl; have hfz19_0 := blk_frozen BK664.out 0; have hfz19_1 := blk_frozen BK664.out 1; have hfz19_2 := blk_frozen BK664.out 2; have hfz19_3 := blk_frozen BK664.out 3))
        refine bodyPost_ret (results_cell_row rfl _ _ gb664 27 #[.bool false, .slice A668_0 (rd_L1 t665 0).length c668_0, .slice none 0 0, .slice none 0 0] (0, 0) _ rfl (by (with_reducible repeat (first | refine blk_drewN ?_ _ | refine blk_drew ?_ | refine blk_alloc ?_ _)); refine blk_put (cs := #[.bool false, .slice A668_0 (rd_L1 t665 0).length c668_0, .slice none 0 0, .slice none 0 0]) ?_ 3 _ rfl; (with_reducible repeat (first | refine blk_drewN ?_ _ | refine blk_drew ?_ | refine blk_alloc ?_ _)); refine blk_put (cs := #[.bool false, .slice A668_0 (rd_L1 t665 0).length c668_0, .slice none 0 0, .slice none 0 0]) ?_ 2 _ rfl; (with_reducible repeat (first | refine blk_drewN ?_ _ | refine blk_drew ?_ | refine blk_alloc ?_ _)); refine blk_put (cs := #[.bool false, .slice none 0 0, .slice none 0 0, .slice none 0 0]) ?_ 1 _ rfl; (with_reducible repeat (first | refine blk_drewN ?_ _ | refine blk_drew ?_ | refine blk_alloc ?_ _)); refine blk_put (cs := #[.bool false, .slice none 0 0, .slice none 0 0, .slice none 0 0]) ?_ 0 _ rfl; (with_reducible repeat (first | refine blk_drewN ?_ _ | refine blk_drew ?_ | refine blk_alloc ?_ _)); exact BK664.out) Try.underlying27 rfl (by kernel_rfl)) rfl ?_
        exact ⟨_, _, _, by first | rfl | (simp [errW_none, errW_some] <;> rfl) | (simp [*, errW_none, errW_some] <;> rfl), by (with_reducible repeat (first | apply Kd.V_alloc | apply Kd.V_drewN | apply Kd.V_drew)); exact Kd.V_mono (Kd.V_far (p := ⟨gb664, 3, none⟩) (Kd.V_far (p := ⟨gb664, 2, none⟩) (Kd.V_far (p := ⟨gb664, 1, none⟩) (Kd.V_far (p := ⟨gb664, 0, none⟩) (Kd.V_mono HL668_0.out (fun k_ hk => (⟨hk, hk.1.2.2⟩ : _ ∧ k_ ≠ gb664))) (fun _ hk => hk.2) (.bool false)) (fun _ hk => hk.2) (.slice A668_0 (rd_L1 t665 0).length c668_0)) (fun _ hk => hk.2) (.slice none 0 0)) (fun _ hk => hk.2) (.slice none 0 0)) (fun _ hk => hk.1.1.1), Kd.V_nil _ _ _ _ _, Kd.V_nil _ _ _ _ _, by repeat (first | (with_reducible first | exact HB.out | apply below_alloc | apply pw_below_drewN | apply below_drew1 | refine below_set ?_ GE663.out | refine below_set ?_ GE664.out) | exact HB.out)⟩
      · rw [if_neg c13] at H
        exact absurd H (by simp)
    · rw [if_neg c12] at H
      have c12b0 : ((t665.length : Int) == 1) = false := beq_eq_false_iff_ne.mpr c12
      have c12b1 : ((t665.length : Int) != 1) = true := bne_iff_ne.mpr c12
      have HC20 := Aside0.mk H
      clear H
      go_enter Try.func46, Try.ntmps46
      go_upto_region 6 with (first | ((with_reducible refine gate_dst (N := 5) rfl ?_); (try (refine gate_guard (by rfl) ?_; dsimp only)); refine box_event ?hg (N := 5) ?hd (cs := #[.int .i64 a2_0, .bool a2_1]) (t := 30) ?hr ?_; (case hd => rfl); (case hg => rfl); (case hr => first | (go_simp; done) | (go_simp; rfl)); intro gb663 hg w21 hbox hb; have n0_ := Aside0.mk (Kd.V_below (Kd.V_elderB (by (with_reducible repeat (first | apply Kd.V_alloc | apply Kd.V_drewN | apply Kd.V_drew)); exact HO0.out) gb663 (Nat.le_of_eq hg.symm)) hb); have n1_ := Aside0.mk (Kd.V_below (Kd.V_elderB (by (with_reducible repeat (first | apply Kd.V_alloc | apply Kd.V_drewN | apply Kd.V_drew)); exact HO1.out) gb663 (Nat.le_of_eq hg.symm)) hb); have n2_ := Aside0.mk (below_step (by repeat (first | (with_reducible first | exact HB.out | apply below_alloc | apply pw_below_drewN | apply below_drew1) | exact HB.out)) hb); have n3_ := Aside0.mk (hbox); have n4_ := Aside0.mk ((by rw [hg]; exact (below_size (by repeat (first | (with_reducible first | exact HB.out | apply below_alloc | apply pw_below_drewN | apply below_drew1) | exact HB.out))) : w.heap.size ≤ gb663)); have n5_ := Aside0.mk ((by rw [hg]; exact (below_size (by repeat (first | (with_reducible first | exact HB.out | apply below_alloc | apply pw_below_drewN | apply below_drew1) | exact HB.out))) : w.heap.size ≤ gb663)); clear HO0; clear HO1; clear HB; have HO0 := n0_; have HO1 := n1_; have HB := n2_; have BK663 := n3_; have GW663 := n4_; have GE663 := n5_; clear n0_ n1_ n2_ n3_ n4_ n5_; clear hb hbox hg) | ((with_reducible refine gate_dst (N := 6) rfl ?_); (try (refine gate_guard (by rfl) ?_; dsimp only)); refine box_event ?hg (N := 6) ?hd (cs := #[.bool false, .slice none 0 0, .slice none 0 0, .slice none 0 0]) (t := 27) ?hr ?_; (case hd => rfl); (case hg => rfl); (case hr => first | (go_simp; done) | (go_simp; rfl)); intro gb664 hg w22 hbox hb; have n0_ := Aside0.mk (Kd.V_below (Kd.V_elderB (by (with_reducible repeat (first | apply Kd.V_alloc | apply Kd.V_drewN | apply Kd.V_drew)); exact HO0.out) gb664 (Nat.le_of_eq hg.symm)) hb); have n1_ := Aside0.mk (Kd.V_below (Kd.V_elderB (by (with_reducible repeat (first | apply Kd.V_alloc | apply Kd.V_drewN | apply Kd.V_drew)); exact HO1.out) gb664 (Nat.le_of_eq hg.symm)) hb); have n2_ := Aside0.mk (blk_below (g := gb663) (o := .cells #[.int .i64 a2_0, .bool a2_1] 30 (0, 0)) (by (with_reducible repeat (first | refine blk_drewN ?_ _ | refine blk_drew ?_ | refine blk_alloc ?_ _)); exact BK663.out) hb); have n3_ := Aside0.mk (below_step (by repeat (first | (with_reducible first | exact HB.out | apply below_alloc | apply pw_below_drewN | apply below_drew1 | refine below_set ?_ GE663.out) | exact HB.out)) hb); have n4_ := Aside0.mk (hbox); have n5_ := Aside0.mk ((by rw [hg]; exact (below_size (by repeat (first | (with_reducible first | exact HB.out | apply below_alloc | apply pw_below_drewN | apply below_drew1 | refine below_set ?_ GE663.out) | exact HB.out))) : w.heap.size ≤ gb664)); have n6_ := Aside0.mk ((by rw [hg]; exact (below_size (by repeat (first | (with_reducible first | exact HB.out | apply below_alloc | apply pw_below_drewN | apply below_drew1 | refine below_set ?_ GE663.out) | exact HB.out))) : w.heap.size ≤ gb664)); have n7_ := Aside0.mk ((by rw [hg]; exact Nat.ne_of_lt (blk_lt (g := gb663) (o := .cells #[.int .i64 a2_0, .bool a2_1] 30 (0, 0)) (by (with_reducible repeat (first | refine blk_drewN ?_ _ | refine blk_drew ?_ | refine blk_alloc ?_ _)); exact BK663.out)) : gb663 ≠ gb664)); have n8_ := Aside0.mk ((by rw [hg]; exact Nat.ne_of_gt (blk_lt (g := gb663) (o := .cells #[.int .i64 a2_0, .bool a2_1] 30 (0, 0)) (by (with_reducible repeat (first | refine blk_drewN ?_ _ | refine blk_drew ?_ | refine blk_alloc ?_ _)); exact BK663.out)) : gb664 ≠ gb663)); clear HO0; clear HO1; clear BK663; clear HB; have HO0 := n0_; have HO1 := n1_; have BK663 := n2_; have HB := n3_; have BK664 := n4_; have GW664 := n5_; have GE664 := n6_; have NB663_664 := n7_; have NB664_663 := n8_; clear n0_ n1_ n2_ n3_ n4_ n5_ n6_ n7_ n8_; clear hb hbox hg) | ((with_reducible refine gate_callee (f := 22) rfl ?_); refine goesL_ (some 10) rfl rfl Try.func22 (by kernel_rfl) rfl #[.slice A0 l0.length c0, .slice A1 l1.length c1] rfl (by (try simp only [List.map_toArray, List.map_cons, List.map_nil]); first | done | rfl | (simp only [List.length_drop, List.length_take]; rfl)) ?_; (with_reducible refine (sennitref06_Differing.calls k _ _ l0 (fun k_ => ((((P0_ k_ ∨ P1_ k_) ∨ w.heap.size ≤ k_) ∧ k_ ≠ gb663) ∧ k_ ≠ gb664)) _ _ l1 t665 _ ?side1 ?side2 ?side3 A4.out).mono ?_); (case side1 => repeat (first | exact (Kd.V_reads' HO0.out).2.2 | (with_reducible refine Kd.C_alloc ?_ _) | (with_reducible refine Kd.C_drewN ?_ _) | (with_reducible refine Kd.C_drew ?_))); (case side2 => exact (Kd.V_reads' HO0.out).2.1); (case side3 => exact HO1.out); rintro e w23 ⟨v666, rfl, ho0, hb⟩; refine ⟨_, rfl, ?_⟩; have n0_ := Aside0.mk (Kd.V_elder' (by (with_reducible repeat (first | apply Kd.V_alloc | apply Kd.V_drewN | apply Kd.V_drew)); exact HO0.out) (Kd.N_base ho0) hb); have n1_ := Aside0.mk (Kd.V_elder' (by (with_reducible repeat (first | apply Kd.V_alloc | apply Kd.V_drewN | apply Kd.V_drew)); exact HO1.out) (Kd.N_base ho0) hb); have n2_ := Aside0.mk (Kd.N_lower (Kd.N_mono (ok' := fun k_ => ((P0_ k_ ∨ P1_ k_) ∨ w.heap.size ≤ k_) ∧ k_ ≠ gb663 ∧ k_ ≠ gb664) ho0 (fun k_ hk_ => ⟨Or.elim hk_ (fun hs_ => hs_.1.1) (fun hn_ => (.inr (Nat.le_trans (below_size (by repeat (first | (with_reducible first | exact HB.out | apply below_alloc | apply pw_below_drewN | apply below_drew1 | refine below_set ?_ GE663.out | refine below_set ?_ GE664.out) | exact HB.out))) hn_))), Or.elim hk_ (fun hs_ => hs_.1.2) (fun hn_ => (Kd.freshB (g := gb663) (o := .cells #[.int .i64 a2_0, .bool a2_1] 30 (0, 0)) (by (with_reducible repeat (first | refine blk_drewN ?_ _ | refine blk_drew ?_ | refine blk_alloc ?_ _)); exact BK663.out) k_ hn_)), Or.elim hk_ (fun hs_ => hs_.2) (fun hn_ => (Kd.freshB (g := gb664) (o := .cells #[.bool false, .slice none 0 0, .slice none 0 0, .slice none 0 0] 27 (0, 0)) (by (with_reducible repeat (first | refine blk_drewN ?_ _ | refine blk_drew ?_ | refine blk_alloc ?_ _)); exact BK664.out) k_ hn_))⟩)) (below_size (by repeat (first | (with_reducible first | exact HB.out | apply below_alloc | apply pw_below_drewN | apply below_drew1 | refine below_set ?_ GE663.out | refine below_set ?_ GE664.out) | exact HB.out)))); have n3_ := Aside0.mk (blk_below (g := gb663) (o := .cells #[.int .i64 a2_0, .bool a2_1] 30 (0, 0)) (by (with_reducible repeat (first | refine blk_drewN ?_ _ | refine blk_drew ?_ | refine blk_alloc ?_ _)); exact BK663.out) hb); have n4_ := Aside0.mk (blk_below (g := gb664) (o := .cells #[.bool false, .slice none 0 0, .slice none 0 0, .slice none 0 0] 27 (0, 0)) (by (with_reducible repeat (first | refine blk_drewN ?_ _ | refine blk_drew ?_ | refine blk_alloc ?_ _)); exact BK664.out) hb); have n5_ := Aside0.mk (below_step (by repeat (first | (with_reducible first | exact HB.out | apply below_alloc | apply pw_below_drewN | apply below_drew1 | refine below_set ?_ GE663.out | refine below_set ?_ GE664.out) | exact HB.out)) hb); clear HO0; clear HO1; clear BK663; clear BK664; clear HB; have HO0 := n0_; have HO1 := n1_; have HO667 := n2_; have BK663 := n3_; have BK664 := n4_; have HB := n5_; clear n0_ n1_ n2_ n3_ n4_ n5_; (try clear hb); (try clear hb2); (try clear hk); (try clear hi); (try clear ho0); obtain ⟨Ao24, co24, eo24⟩ := Kd.N_slice HO667.out; subst eo24))
      (try simp only [Act.put, List.setIfInBounds_toArray, List.set_cons_zero, List.set_cons_succ])
      go_cut [32] (fun v32 wc => ∃ (kq : Nat) (x32_19 : Bool), v32 = .bool x32_19 ∧ Aside0 (sennitref07_Piece.j0 kq l0 l1 t665 x32_19 a2_0 a2_1 = some (r1, r2, r3, r4)) ∧ Aside0 (kq ≤ k) ∧ Aside0 (Kd.V Kd.string 9 wc w.heap.size (fun k_ => ((P0_ k_ ∨ P1_ k_) ∨ w.heap.size ≤ k_) ∧ some k_ ≠ ((.slice Ao24 t665.length co24) : Value).ownBlock ∧ k_ ≠ gb663 ∧ k_ ≠ gb664) (.slice A0 l0.length c0) l0) ∧ Aside0 (Kd.V (Kd.slice 9 Kd.string) 22 wc w.heap.size (fun k_ => ((P0_ k_ ∨ P1_ k_) ∨ w.heap.size ≤ k_) ∧ some k_ ≠ ((.slice Ao24 t665.length co24) : Value).ownBlock ∧ k_ ≠ gb663 ∧ k_ ≠ gb664) (.slice A1 l1.length c1) l1) ∧ Aside0 (Kd.N (Kd.slice 9 Kd.string) 22 wc w.heap.size (fun k_ => ((P0_ k_ ∨ P1_ k_) ∨ w.heap.size ≤ k_) ∧ k_ ≠ gb663 ∧ k_ ≠ gb664) (.slice Ao24 t665.length co24) t665) ∧ Aside0 (wc.heap[gb663]? = some (.cells #[.int .i64 a2_0, .bool a2_1] 30 (0, 0))) ∧ Aside0 (wc.heap[gb664]? = some (.cells #[.bool false, (.slice none 0 0), (.slice none 0 0), (.slice none 0 0)] 27 (0, 0))) ∧ Aside0 (Below w.heap.size w wc))
      case first =>
        have H := HC20.out
        clear HC20
        by_cases c25 : a2_0 > 0
        · rw [if_pos c25] at H
          have c25b0 : decide (0 < a2_0) = true := decide_eq_true c25
          clear c25
          (first | rw [c25b0] | (simp only [i64_w, i32_w]; rw [c25b0]) | skip)
          have H' := Aside0.mk H
          clear H
          have hnb26 := NB663_664.out
          have hnc26 := NB664_663.out
          have hcz27_0 : w23.cell? ⟨gb663, 0, none⟩ = some (.int .i64 a2_0) := (blk_cell BK663.out 0).trans rfl
          have hcz27_1 : w23.cell? ⟨gb663, 1, none⟩ = some (.bool a2_1) := (blk_cell BK663.out 1).trans rfl
          have hfz27_0 := blk_frozen BK663.out 0
          have hfz27_1 := blk_frozen BK663.out 1
          go_wp2
          go_meet
          case rel => exact ⟨_, (decide (a2_0 ≤ (l1.length : Int))), (by first | rfl | (simp; done) | (simp [*]; done)), H', ⟨by first | omega | exact Nat.le_refl _⟩, ⟨by (with_reducible repeat (first | apply Kd.V_alloc | apply Kd.V_drewN | apply Kd.V_drew)); exact Kd.V_mono HO0.out (fun _ hk => ⟨hk.1.1.1, ⟨hk.2, ⟨hk.1.1.2, hk.1.2⟩⟩⟩)⟩, ⟨by (with_reducible repeat (first | apply Kd.V_alloc | apply Kd.V_drewN | apply Kd.V_drew)); exact Kd.V_mono HO1.out (fun _ hk => ⟨hk.1.1.1, ⟨hk.2, ⟨hk.1.1.2, hk.1.2⟩⟩⟩)⟩, ⟨by (with_reducible repeat (first | apply Kd.N_alloc | apply Kd.N_drewN | apply Kd.N_drew)); exact HO667.out⟩, ⟨by (with_reducible repeat (first | refine blk_drewN ?_ _ | refine blk_drew ?_ | refine blk_alloc ?_ _)); exact BK663.out⟩, ⟨by (with_reducible repeat (first | refine blk_drewN ?_ _ | refine blk_drew ?_ | refine blk_alloc ?_ _)); exact BK664.out⟩, ⟨by repeat (first | (with_reducible first | exact HB.out | apply below_alloc | apply pw_below_drewN | apply below_drew1 | refine below_set ?_ GE663.out | refine below_set ?_ GE664.out) | exact HB.out)⟩⟩
        · rw [if_neg c25] at H
          have c25b0 : decide (0 < a2_0) = false := decide_eq_false c25
          clear c25
          (first | rw [c25b0] | (simp only [i64_w, i32_w]; rw [c25b0]) | skip)
          have H' := Aside0.mk H
          clear H
          have hnb28 := NB663_664.out
          have hnc28 := NB664_663.out
          have hcz29_0 : w23.cell? ⟨gb663, 0, none⟩ = some (.int .i64 a2_0) := (blk_cell BK663.out 0).trans rfl
          have hcz29_1 : w23.cell? ⟨gb663, 1, none⟩ = some (.bool a2_1) := (blk_cell BK663.out 1).trans rfl
          have hfz29_0 := blk_frozen BK663.out 0
          have hfz29_1 := blk_frozen BK663.out 1
          go_wp2
          go_meet
          case rel => exact ⟨_, (false), (by first | rfl | (simp; done) | (simp [*]; done)), H', ⟨by first | omega | exact Nat.le_refl _⟩, ⟨by (with_reducible repeat (first | apply Kd.V_alloc | apply Kd.V_drewN | apply Kd.V_drew)); exact Kd.V_mono HO0.out (fun _ hk => ⟨hk.1.1.1, ⟨hk.2, ⟨hk.1.1.2, hk.1.2⟩⟩⟩)⟩, ⟨by (with_reducible repeat (first | apply Kd.V_alloc | apply Kd.V_drewN | apply Kd.V_drew)); exact Kd.V_mono HO1.out (fun _ hk => ⟨hk.1.1.1, ⟨hk.2, ⟨hk.1.1.2, hk.1.2⟩⟩⟩)⟩, ⟨by (with_reducible repeat (first | apply Kd.N_alloc | apply Kd.N_drewN | apply Kd.N_drew)); exact HO667.out⟩, ⟨by (with_reducible repeat (first | refine blk_drewN ?_ _ | refine blk_drew ?_ | refine blk_alloc ?_ _)); exact BK663.out⟩, ⟨by (with_reducible repeat (first | refine blk_drewN ?_ _ | refine blk_drew ?_ | refine blk_alloc ?_ _)); exact BK664.out⟩, ⟨by repeat (first | (with_reducible first | exact HB.out | apply below_alloc | apply pw_below_drewN | apply below_drew1 | refine below_set ?_ GE663.out | refine below_set ?_ GE664.out) | exact HB.out)⟩⟩
      case rest =>
        clear HC20
        try clear c1
        try clear c2
        try clear p2
        try clear c4
        try clear c5
        try clear c5b0
        try clear c5b1
        try clear c5b2
        try clear c6
        try clear p6
        try clear q6
        try clear hx6
        try clear qi6
        try clear c10
        try clear c12
        try clear c12b0
        try clear c12b1
        try clear c13
        try clear c13b0
        try clear c13b1
        try clear c18
        try clear c22
        try clear c25
        try clear c25b0
        try clear c26
        try clear c28
        try clear hcz11_0
        try clear hcz11_1
        try clear hcz11_2
        try clear hcz11_3
        try clear hcz19_0
        try clear hcz19_1
        try clear hcz19_2
        try clear hcz19_3
        try clear hcz27_0
        try clear hcz27_1
        try clear hcz29_0
        try clear hcz29_1
        try clear hfz11_0
        try clear hfz11_1
        try clear hfz11_2
        try clear hfz11_3
        try clear hfz19_0
        try clear hfz19_1
        try clear hfz19_2
        try clear hfz19_3
        try clear hfz27_0
        try clear hfz27_1
        try clear hfz29_0
        try clear hfz29_1
        try clear hx668_0
        try clear p668
        try clear q668
        obtain ⟨kq, x32_19, rfl, HA, HJ19, HO_0, HO_1, HO_7, BK663, BK664, HB⟩ := hcut
        cases kq with
        | zero => exact absurd HA.out (by simp [sennitref07_Piece.j0])
        | succ kj19 =>
          have H := HA.out
          clear HA
          simp only [sennitref07_Piece.j0] at H
          by_cases c30 : x32_19 = true
          · subst c30
            have H1 : (if 0 ≤ (wrap64 (a2_0 - 1)) then (if (wrap64 (a2_0 - 1)) < (l1.length : Int) then (some (false, rd_L1 l1 (wrap64 (a2_0 - 1)), ([] : List ByteArray), ([] : List (List ByteArray)))) else (none)) else (none)) = some (r1, r2, r3, r4) := by rw [if_pos rfl] at H; exact H
            clear H
            have H := H1
            clear H1
            obtain ⟨ji31, hji31⟩ : ∃ j_ : Int, (wrap64 (a2_0 - 1)) = j_ := ⟨_, rfl⟩
            replace H : (if 0 ≤ (ji31) then (if (ji31) < (l1.length : Int) then (some (false, rd_L1 l1 (ji31), ([] : List ByteArray), ([] : List (List ByteArray)))) else (none)) else (none)) = some (r1, r2, r3, r4) := by first | (rw [hji31] at H; exact H) | (simp only [hji31] at H ⊢; exact H)
            have hji31w : (IntKind.i64.wrap (a2_0 - 1)) = ji31 := (i64_w _).trans hji31
            by_cases c32 : 0 ≤ (ji31)
            · rw [if_pos c32] at H
              have c32b0 : decide (0 ≤ (ji31)) = true := decide_eq_true c32
              clear c32
              by_cases c33 : (ji31) < (l1.length : Int)
              · rw [if_pos c33] at H
                have c33b0 : decide ((ji31) < (l1.length : Int)) = true := decide_eq_true c33
                clear c33
                simp only [Option.some.injEq, Prod.mk.injEq] at H
                obtain ⟨rfl, rfl, rfl, rfl⟩ := H
                have hnb34 := NB663_664.out
                have hnc34 := NB664_663.out
                have hcz35_0 : wc.cell? ⟨gb663, 0, none⟩ = some (.int .i64 a2_0) := (blk_cell BK663.out 0).trans rfl
                have hcz35_1 : wc.cell? ⟨gb663, 1, none⟩ = some (.bool a2_1) := (blk_cell BK663.out 1).trans rfl
                have hfz35_0 := blk_frozen BK663.out 0
                have hfz35_1 := blk_frozen BK663.out 1
                have p669 : 0 ≤ ((ji31) : Int) := of_decide_eq_true (by first | (with_reducible assumption) | assumption)
                have q669 : (ji31) < (l1.length : Int) := of_decide_eq_true (by first | (with_reducible assumption) | assumption)
                obtain ⟨ad669, A669_0, c669_0, e669, hx669_0, hl669_0, hi669_0⟩ := at_L1 (Kd.V_reads' HO_1.out).2.2 (ji31) p669 q669
                cases e669
                obtain ⟨ce669, hce669, hMe669, hcc669⟩ := Kd.V_get HO_1.out [] (ji31) p669 (by first | exact q669 | exact of_decide_eq_true (by first | (with_reducible assumption) | assumption) | (have e_ := (Kd.V_reads' HO_1.out).1; omega))
                obtain ⟨ua669_0, uc669_0, rfl, ul669_0, ge669_0⟩ := Kd.FK_slice_open hMe669
                have hv669_0 := hcc669 0 _ rfl
                rw [Nat.add_zero, show ((Kd.slice 9 Kd.string)).sz = 1 from rfl, Nat.mul_one] at hv669_0
                replace hv669_0 := Option.some.inj (hv669_0.symm.trans hx669_0)
                injection hv669_0 with hva_ hvn_ hvc_
                rw [hva_] at ge669_0
                rw [hvc_] at ul669_0
                have HL669_0 := Aside0.mk (show Kd.V Kd.string 9 _ w.heap.size _ _ (rd_L1 l1 (ji31)) from Kd.V_mk ul669_0 ge669_0)
                clear hva_ hvn_ hvc_ ge669_0 ul669_0
                clear hcc669 hce669
                have HR669_0 := Aside0.mk hi669_0
                have HC669_0 := Aside0.mk hl669_0
                clear hi669_0 hl669_0
                replace p669 := eq_true p669
                replace q669 := eq_true q669
                have hcz36_0 : wc.cell? ⟨gb664, 0, none⟩ = some (.bool false) := (blk_cell BK664.out 0).trans rfl
                have hcz36_1 : wc.cell? ⟨gb664, 1, none⟩ = some (.slice none 0 0) := (blk_cell BK664.out 1).trans rfl
                have hcz36_2 : wc.cell? ⟨gb664, 2, none⟩ = some (.slice none 0 0) := (blk_cell BK664.out 2).trans rfl
                have hcz36_3 : wc.cell? ⟨gb664, 3, none⟩ = some (.slice none 0 0) := (blk_cell BK664.out 3).trans rfl
                have hfz36_0 := blk_frozen BK664.out 0
                have hfz36_1 := blk_frozen BK664.out 1
                have hfz36_2 := blk_frozen BK664.out 2
                have hfz36_3 := blk_frozen BK664.out 3
                go_wp2
                refine bodyPost_ret (results_cell_row rfl _ _ gb664 27 #[.bool false, .slice A669_0 (rd_L1 l1 (ji31)).length c669_0, .slice none 0 0, .slice none 0 0] (0, 0) _ rfl (by (with_reducible repeat (first | refine blk_drewN ?_ _ | refine blk_drew ?_ | refine blk_alloc ?_ _)); refine blk_put (cs := #[.bool false, .slice A669_0 (rd_L1 l1 (ji31)).length c669_0, .slice none 0 0, .slice none 0 0]) ?_ 3 _ rfl; (with_reducible repeat (first | refine blk_drewN ?_ _ | refine blk_drew ?_ | refine blk_alloc ?_ _)); refine blk_put (cs := #[.bool false, .slice A669_0 (rd_L1 l1 (ji31)).length c669_0, .slice none 0 0, .slice none 0 0]) ?_ 2 _ rfl; (with_reducible repeat (first | refine blk_drewN ?_ _ | refine blk_drew ?_ | refine blk_alloc ?_ _)); refine blk_put (cs := #[.bool false, .slice none 0 0, .slice none 0 0, .slice none 0 0]) ?_ 1 _ rfl; (with_reducible repeat (first | refine blk_drewN ?_ _ | refine blk_drew ?_ | refine blk_alloc ?_ _)); refine blk_put (cs := #[.bool false, .slice none 0 0, .slice none 0 0, .slice none 0 0]) ?_ 0 _ rfl; (with_reducible repeat (first | refine blk_drewN ?_ _ | refine blk_drew ?_ | refine blk_alloc ?_ _)); exact BK664.out) Try.underlying27 rfl (by kernel_rfl)) rfl ?_
                exact ⟨_, _, _, by first | rfl | (simp [errW_none, errW_some] <;> rfl) | (simp only [← hji31]; first | rfl | (simp [errW_none, errW_some] <;> rfl)) | (simp [*, errW_none, errW_some] <;> rfl), by (with_reducible repeat (first | apply Kd.V_alloc | apply Kd.V_drewN | apply Kd.V_drew)); exact Kd.V_mono (Kd.V_far (p := ⟨gb664, 3, none⟩) (Kd.V_far (p := ⟨gb664, 2, none⟩) (Kd.V_far (p := ⟨gb664, 1, none⟩) (Kd.V_far (p := ⟨gb664, 0, none⟩) (Kd.V_mono HL669_0.out (fun k_ hk => (⟨hk, hk.2.2.2⟩ : _ ∧ k_ ≠ gb664))) (fun _ hk => hk.2) (.bool false)) (fun _ hk => hk.2) (.slice A669_0 (rd_L1 l1 (ji31)).length c669_0)) (fun _ hk => hk.2) (.slice none 0 0)) (fun _ hk => hk.2) (.slice none 0 0)) (fun _ hk => hk.1.1), Kd.V_nil _ _ _ _ _, Kd.V_nil _ _ _ _ _, by repeat (first | (with_reducible first | exact HB.out | apply below_alloc | apply pw_below_drewN | apply below_drew1 | refine below_set ?_ GE663.out | refine below_set ?_ GE664.out) | exact HB.out)⟩
              · rw [if_neg c33] at H
                exact absurd H (by simp)
            · rw [if_neg c32] at H
              exact absurd H (by simp)
          · replace c30 := Bool.eq_false_iff.mpr c30
            subst c30
            have H1 : (if a2_1 = true then ((sennitref07_union.f kj19 t665).bind fun t670 => (some (false, t670, ([] : List ByteArray), ([] : List (List ByteArray))))) else (some (true, ([] : List ByteArray), l0, l1))) = some (r1, r2, r3, r4) := by rw [if_neg (show ¬ (false = true) by decide)] at H; exact H
            clear H
            have H := H1
            clear H1
            by_cases c37 : a2_1 = true
            · subst c37
              have H1 : ((sennitref07_union.f kj19 t665).bind fun t670 => (some (false, t670, ([] : List ByteArray), ([] : List (List ByteArray))))) = some (r1, r2, r3, r4) := by rw [if_pos rfl] at H; exact H
              clear H
              have H := H1
              clear H1
              replace H := Option.bind_eq_some_iff.mp H
              obtain ⟨t670, A380, H⟩ := H
              replace H : (some (false, t670, ([] : List ByteArray), ([] : List (List ByteArray)))) = some (r1, r2, r3, r4) := H
              have A38 := Aside0.mk A380
              clear A380
              simp only [Option.some.injEq, Prod.mk.injEq] at H
              obtain ⟨rfl, rfl, rfl, rfl⟩ := H
              have hnb39 := NB663_664.out
              have hnc39 := NB664_663.out
              have hcz40_0 : wc.cell? ⟨gb663, 0, none⟩ = some (.int .i64 a2_0) := (blk_cell BK663.out 0).trans rfl
              have hcz40_1 : wc.cell? ⟨gb663, 1, none⟩ = some (.bool true) := (blk_cell BK663.out 1).trans rfl
              have hfz40_0 := blk_frozen BK663.out 0
              have hfz40_1 := blk_frozen BK663.out 1
              go_wp2_with (first | ((with_reducible refine gate_callee (f := 69) rfl ?_); refine goesL_ (some 43) rfl rfl Try.func69 (by kernel_rfl) rfl #[.slice Ao24 t665.length co24] rfl (by (try simp only [List.map_toArray, List.map_cons, List.map_nil]); first | done | rfl | (simp only [List.length_drop, List.length_take]; rfl)) ?_; (with_reducible refine (sennitref07_union.calls kj19 _ _ t665 t670 _ ?side1 ?side2 A38.out).mono ?_); (case side1 => repeat (first | exact (Kd.N_reads' HO_7.out).2.2 | (with_reducible refine Kd.C_alloc ?_ _) | (with_reducible refine Kd.C_drewN ?_ _) | (with_reducible refine Kd.C_drew ?_))); (case side2 => exact (Kd.N_reads' HO_7.out).2.1); rintro e w41 ⟨v671, rfl, ho0, hb⟩; refine ⟨_, rfl, ?_⟩; have n0_ := Aside0.mk (Kd.V_elder' (by (with_reducible repeat (first | apply Kd.V_alloc | apply Kd.V_drewN | apply Kd.V_drew)); exact HO_0.out) (Kd.R_base ho0) hb); have n1_ := Aside0.mk (Kd.V_elder' (by (with_reducible repeat (first | apply Kd.V_alloc | apply Kd.V_drewN | apply Kd.V_drew)); exact HO_1.out) (Kd.R_base ho0) hb); have n2_ := Aside0.mk (Kd.N_elder' (by (with_reducible repeat (first | apply Kd.N_alloc | apply Kd.N_drewN | apply Kd.N_drew)); exact HO_7.out) (Kd.R_base ho0) hb); have n3_ := Aside0.mk (Kd.R_lower (Kd.R_newM (M := fun k_ => (w.heap.size ≤ k_)) ho0 (below_size (by repeat (first | (with_reducible first | exact HB.out | apply below_alloc | apply pw_below_drewN | apply below_drew1 | refine below_set ?_ GE663.out | refine below_set ?_ GE664.out) | exact HB.out))) (fun k_ h_ => h_)) (below_size (by repeat (first | (with_reducible first | exact HB.out | apply below_alloc | apply pw_below_drewN | apply below_drew1 | refine below_set ?_ GE663.out | refine below_set ?_ GE664.out) | exact HB.out)))); have n4_ := Aside0.mk (blk_below (g := gb663) (o := .cells #[.int .i64 a2_0, .bool true] 30 (0, 0)) (by (with_reducible repeat (first | refine blk_drewN ?_ _ | refine blk_drew ?_ | refine blk_alloc ?_ _)); exact BK663.out) hb); have n5_ := Aside0.mk (blk_below (g := gb664) (o := .cells #[.bool false, .slice none 0 0, .slice none 0 0, .slice none 0 0] 27 (0, 0)) (by (with_reducible repeat (first | refine blk_drewN ?_ _ | refine blk_drew ?_ | refine blk_alloc ?_ _)); exact BK664.out) hb); have n6_ := Aside0.mk (below_step (by repeat (first | (with_reducible first | exact HB.out | apply below_alloc | apply pw_below_drewN | apply below_drew1 | refine below_set ?_ GE663.out | refine below_set ?_ GE664.out) | exact HB.out)) hb); clear HO_0; clear HO_1; clear HO_7; clear BK663; clear BK664; clear HB; have HO_0 := n0_; have HO_1 := n1_; have HO_7 := n2_; have HO672 := n3_; have BK663 := n4_; have BK664 := n5_; have HB := n6_; clear n0_ n1_ n2_ n3_ n4_ n5_ n6_; (try clear hb); (try clear hb2); (try clear hk); (try clear hi); (try clear ho0); obtain ⟨Ao42, co42, eo42⟩ := Kd.R_slice HO672.out; subst eo42; have hcz43_0 : w41.cell? ⟨gb664, 0, none⟩ = some (.bool false) := (blk_cell BK664.out 0).trans rfl; have hcz43_1 : w41.cell? ⟨gb664, 1, none⟩ = some (.slice none 0 0) := (blk_cell BK664.out 1).trans rfl; have hcz43_2 : w41.cell? ⟨gb664, 2, none⟩ = some (.slice none 0 0) := (blk_cell BK664.out 2).trans rfl; have hcz43_3 : w41.cell? ⟨gb664, 3, none⟩ = some (.slice none 0 0) := (blk_cell BK664.out 3).trans rfl; have hfz43_0 := blk_frozen BK664.out 0; have hfz43_1 := blk_frozen BK664.out 1; have hfz43_2 := blk_frozen BK664.out 2; have hfz43_3 := blk_frozen BK664.out 3))
              refine bodyPost_ret (results_cell_row rfl _ _ gb664 27 #[.bool false, .slice Ao42 t670.length co42, .slice none 0 0, .slice none 0 0] (0, 0) _ rfl (by (with_reducible repeat (first | refine blk_drewN ?_ _ | refine blk_drew ?_ | refine blk_alloc ?_ _)); refine blk_put (cs := #[.bool false, .slice Ao42 t670.length co42, .slice none 0 0, .slice none 0 0]) ?_ 3 _ rfl; (with_reducible repeat (first | refine blk_drewN ?_ _ | refine blk_drew ?_ | refine blk_alloc ?_ _)); refine blk_put (cs := #[.bool false, .slice Ao42 t670.length co42, .slice none 0 0, .slice none 0 0]) ?_ 2 _ rfl; (with_reducible repeat (first | refine blk_drewN ?_ _ | refine blk_drew ?_ | refine blk_alloc ?_ _)); refine blk_put (cs := #[.bool false, .slice none 0 0, .slice none 0 0, .slice none 0 0]) ?_ 1 _ rfl; (with_reducible repeat (first | refine blk_drewN ?_ _ | refine blk_drew ?_ | refine blk_alloc ?_ _)); refine blk_put (cs := #[.bool false, .slice none 0 0, .slice none 0 0, .slice none 0 0]) ?_ 0 _ rfl; (with_reducible repeat (first | refine blk_drewN ?_ _ | refine blk_drew ?_ | refine blk_alloc ?_ _)); exact BK664.out) Try.underlying27 rfl (by kernel_rfl)) rfl ?_
              exact ⟨_, _, _, by first | rfl | (simp [errW_none, errW_some] <;> rfl) | (simp [*, errW_none, errW_some] <;> rfl), Kd.V_mono (Kd.R_V (by (with_reducible repeat (first | apply Kd.R_alloc | apply Kd.R_drewN | apply Kd.R_drew)); exact Kd.R_mono (Kd.R_far (p := ⟨gb664, 3, none⟩) (Kd.R_far (p := ⟨gb664, 2, none⟩) (Kd.R_far (p := ⟨gb664, 1, none⟩) (Kd.R_far (p := ⟨gb664, 0, none⟩) (Kd.R_types HO672.out BK664.out (by decide)) (fun _ hk => hk.2) (.bool false)) (fun _ hk => hk.2) (.slice Ao42 t670.length co42)) (fun _ hk => hk.2) (.slice none 0 0)) (fun _ hk => hk.2) (.slice none 0 0)) (fun _ hk => hk.1.1))) (fun k_ hk => by first | exact ⟨(.inr (hk.1)), hk.2⟩ | exact (.inr (hk))), Kd.V_nil _ _ _ _ _, Kd.V_nil _ _ _ _ _, by repeat (first | (with_reducible first | exact HB.out | apply below_alloc | apply pw_below_drewN | apply below_drew1 | refine below_set ?_ GE663.out | refine below_set ?_ GE664.out) | exact HB.out)⟩
            · replace c37 := Bool.eq_false_iff.mpr c37
              subst c37
              have H1 : (some (true, ([] : List ByteArray), l0, l1)) = some (r1, r2, r3, r4) := by rw [if_neg (show ¬ (false = true) by decide)] at H; exact H
              clear H
              have H := H1
              clear H1
              simp only [Option.some.injEq, Prod.mk.injEq] at H
              obtain ⟨rfl, rfl, rfl, rfl⟩ := H
              have hnb44 := NB663_664.out
              have hnc44 := NB664_663.out
              have hcz45_0 : wc.cell? ⟨gb663, 0, none⟩ = some (.int .i64 a2_0) := (blk_cell BK663.out 0).trans rfl
              have hcz45_1 : wc.cell? ⟨gb663, 1, none⟩ = some (.bool false) := (blk_cell BK663.out 1).trans rfl
              have hfz45_0 := blk_frozen BK663.out 0
              have hfz45_1 := blk_frozen BK663.out 1
              have hcz46_0 : wc.cell? ⟨gb664, 0, none⟩ = some (.bool false) := (blk_cell BK664.out 0).trans rfl
              have hcz46_1 : wc.cell? ⟨gb664, 1, none⟩ = some (.slice none 0 0) := (blk_cell BK664.out 1).trans rfl
              have hcz46_2 : wc.cell? ⟨gb664, 2, none⟩ = some (.slice none 0 0) := (blk_cell BK664.out 2).trans rfl
              have hcz46_3 : wc.cell? ⟨gb664, 3, none⟩ = some (.slice none 0 0) := (blk_cell BK664.out 3).trans rfl
              have hfz46_0 := blk_frozen BK664.out 0
              have hfz46_1 := blk_frozen BK664.out 1
              have hfz46_2 := blk_frozen BK664.out 2
              have hfz46_3 := blk_frozen BK664.out 3
              go_wp2
              refine bodyPost_ret (results_cell_row rfl _ _ gb664 27 #[.bool true, .slice none 0 0, .slice A0 l0.length c0, .slice A1 l1.length c1] (0, 0) _ rfl (by (with_reducible repeat (first | refine blk_drewN ?_ _ | refine blk_drew ?_ | refine blk_alloc ?_ _)); refine blk_put (cs := #[.bool true, .slice none 0 0, .slice A0 l0.length c0, .slice none 0 0]) ?_ 3 _ rfl; (with_reducible repeat (first | refine blk_drewN ?_ _ | refine blk_drew ?_ | refine blk_alloc ?_ _)); refine blk_put (cs := #[.bool true, .slice none 0 0, .slice none 0 0, .slice none 0 0]) ?_ 2 _ rfl; (with_reducible repeat (first | refine blk_drewN ?_ _ | refine blk_drew ?_ | refine blk_alloc ?_ _)); refine blk_put (cs := #[.bool true, .slice none 0 0, .slice none 0 0, .slice none 0 0]) ?_ 1 _ rfl; (with_reducible repeat (first | refine blk_drewN ?_ _ | refine blk_drew ?_ | refine blk_alloc ?_ _)); refine blk_put (cs := #[.bool false, .slice none 0 0, .slice none 0 0, .slice none 0 0]) ?_ 0 _ rfl; (with_reducible repeat (first | refine blk_drewN ?_ _ | refine blk_drew ?_ | refine blk_alloc ?_ _)); exact BK664.out) Try.underlying27 rfl (by kernel_rfl)) rfl ?_
              exact ⟨_, _, _, by first | rfl | (simp [errW_none, errW_some] <;> rfl) | (simp [*, errW_none, errW_some] <;> rfl), Kd.V_nil _ _ _ _ _, by (with_reducible repeat (first | apply Kd.V_alloc | apply Kd.V_drewN | apply Kd.V_drew)); exact Kd.V_mono (Kd.V_far (p := ⟨gb664, 3, none⟩) (Kd.V_far (p := ⟨gb664, 2, none⟩) (Kd.V_far (p := ⟨gb664, 1, none⟩) (Kd.V_far (p := ⟨gb664, 0, none⟩) (Kd.V_mono HO_0.out (fun k_ hk => (⟨hk, hk.2.2.2⟩ : _ ∧ k_ ≠ gb664))) (fun _ hk => hk.2) (.bool true)) (fun _ hk => hk.2) (.slice none 0 0)) (fun _ hk => hk.2) (.slice A0 l0.length c0)) (fun _ hk => hk.2) (.slice A1 l1.length c1)) (fun _ hk => hk.1.1), by (with_reducible repeat (first | apply Kd.V_alloc | apply Kd.V_drewN | apply Kd.V_drew)); exact Kd.V_mono (Kd.V_far (p := ⟨gb664, 3, none⟩) (Kd.V_far (p := ⟨gb664, 2, none⟩) (Kd.V_far (p := ⟨gb664, 1, none⟩) (Kd.V_far (p := ⟨gb664, 0, none⟩) (Kd.V_mono HO_1.out (fun k_ hk => (⟨hk, hk.2.2.2⟩ : _ ∧ k_ ≠ gb664))) (fun _ hk => hk.2) (.bool true)) (fun _ hk => hk.2) (.slice none 0 0)) (fun _ hk => hk.2) (.slice A0 l0.length c0)) (fun _ hk => hk.2) (.slice A1 l1.length c1)) (fun _ hk => hk.1.1), by repeat (first | (with_reducible first | exact HB.out | apply below_alloc | apply pw_below_drewN | apply below_drew1 | refine below_set ?_ GE663.out | refine below_set ?_ GE664.out) | exact HB.out)⟩

end Go.Proofs.Ytiaoppikdgoieaa.M
