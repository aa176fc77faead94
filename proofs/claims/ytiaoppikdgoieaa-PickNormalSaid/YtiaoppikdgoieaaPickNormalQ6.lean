/- Texts of the claim PickNormal, put together (part 6): pick.Same: closures by contracts of their own. By a program of this session: a Go function as a Lean function, and that the machine's call does what it says. sennitref07.Same: what it tells, as a Lean function, and that the machine's call does what it says. By a program of this session: a Go function as a Lean function, and that the machine's call does what it says. What the functions of layer 7 tell, with rounds enough. Plain Lean. Layer 7: the awake function. Plain Lean. -/
import Derived.ArgAppend
import Derived.Below
import Derived.BigQuiet
import Derived.Deep.AppendLies
import Derived.Deep.CutBlock
import Derived.Deep.DeepCutAuto
import Derived.Deep.Draws
import Derived.Deep.LoopGhost
import Derived.Deep.OwnRows
import Derived.Deep.QuietTactic
import Derived.Deep.RegionHeld3
import Derived.KernelRfl
import Derived.Laws.BitsLemmas
import Derived.Laws.BytesArg
import Derived.Laws.EntriesVeiled
import Derived.Laws.IdiomCopy
import Derived.Laws.MakeOwn
import Derived.Laws.OwnMore
import Derived.Laws.Rows
import Derived.Laws.Slices
import Derived.Lib.AppendStr
import Derived.Lib.ConvBytes
import Derived.Maps.AppendAt
import Derived.OrdersHeld
import Derived.OwnWalk
import Derived.RangeFuncBox
import Derived.RowKit
import Derived.RowKit3
import Derived.Tactics
import Derived.Test.YtiaoppikdgoieaaProg
import Derived.Test.YtiaoppikdgoieaaWApart
import Derived.Test.YtiaoppikdgoieaaWArr
import Derived.Test.YtiaoppikdgoieaaWAt
import Derived.Test.YtiaoppikdgoieaaWEqStruct
import Derived.Test.YtiaoppikdgoieaaWFoot
import Derived.Test.YtiaoppikdgoieaaWFootNe
import Derived.Test.YtiaoppikdgoieaaWFour
import Derived.Test.YtiaoppikdgoieaaWGuard
import Derived.Test.YtiaoppikdgoieaaWInv
import Derived.Test.YtiaoppikdgoieaaWInvWords
import Derived.Test.YtiaoppikdgoieaaWKept
import Derived.Test.YtiaoppikdgoieaaWLast
import Derived.Test.YtiaoppikdgoieaaWMore
import Derived.Test.YtiaoppikdgoieaaWN
import Derived.Test.YtiaoppikdgoieaaWNEv
import Derived.Test.YtiaoppikdgoieaaWQPut
import Derived.Test.YtiaoppikdgoieaaWRepsOne
import Derived.Test.YtiaoppikdgoieaaWShare
import Derived.Test.YtiaoppikdgoieaaWTab
import Derived.Test.YtiaoppikdgoieaaWWords
import Derived.Test.YtiaoppikdgoieaaWZeros
import Derived.WalkKit
import Derived.WideLaws
import Derived.Test.YtiaoppikdgoieaaPickNormalQ5
namespace Go.Proofs.Ytiaoppikdgoieaa.M
open Go.RowKit Go.Proofs Go.Proofs.YtiaoppikdgoieaaW.PrintWords Go.Proofs.YtiaoppikdgoieaaW.PrintLast Go.Proofs.YtiaoppikdgoieaaW.PrintMore Go.Proofs.Ytiaoppikdgoieaa.Hand
attribute [local go_sem] Oper.semAt_some
set_option linter.unusedVariables false
set_option linter.unusedSimpArgs false

set_option maxHeartbeats 4000000 in
set_option maxRecDepth 100000 in
theorem equal53_c (w0 : World) (p : Addr) (A0 : Option Addr) (c0 : Nat) (l0 : List S27) (A1 : Option Addr) (c1 : Nat) (l1 : List S27) (hp : w0.cell? p = some (.func (.func 52) #[] #[])) (hpl : p.block < w0.heap.size)
    (hr0 : Kd.C k27 w0 A0 l0.length l0) (hc0 : l0.length ≤ c0) (hr1 : Kd.C k27 w0 A1 l1.length l1) (hc1 : l1.length ≤ c1) (hle : l0.length ≤ 1000000000) :
    Calls Try.prog 53 #[.slice A0 l0.length c0, .slice A1 l1.length c1, .func (.func 54) #[] #[.pointer (some p)]] w0 fun e w' => e = .returned (.bool (decide (l0.length = l1.length) && (List.zipWith sameP l0 l1).all id)) ∧ Below w0.heap.size w0 w' := by
  have HR0 := Aside0.mk hr0
  have HC0 := Aside0.mk hc0
  have HR1 := Aside0.mk hr1
  have HC1 := Aside0.mk hc1
  have HL0 := Aside0.mk hr0.2.1
  have HL1 := Aside0.mk hr1.2.1
  have HP := Aside0.mk hp
  have HPL := Aside0.mk hpl
  have HLE := Aside0.mk hle
  clear hr0 hc0 hr1 hc1 hp hpl hle
  by_cases hlen : l0.length = l1.length
  · have HN := Aside0.mk hlen
    have e1 : ((l0.length : Int) != (l1.length : Int)) = false := by rw [hlen]; simp
    have e2 : (l0.length != l1.length) = false := by rw [hlen]; simp
    clear hlen
    rw [decide_eq_true HN.out, Bool.true_and]
    go_enter Try.func53, Try.ntmps53
    go_wp2
    repeat (go_quiet (fail); try go_wp2)
    go_loopg [17] l0.length (fun kq v17 w' => ∃ i : Nat, v17 = .int .i64 (i : Int) ∧ Aside0 (i ≤ l0.length ∧ kq = l0.length - i) ∧ Aside0 ((List.zipWith sameP (l0.take i) (l1.take i)).all id = true) ∧ Aside0 (Below w0.heap.size w0 w'))
    case atStart => exact ⟨0, rfl, ⟨Nat.zero_le _, rfl⟩, ⟨by simp⟩, ⟨Below.refl _ _⟩⟩
    case round =>
      obtain ⟨i, rfl, HI, HA, HB⟩ := hrel
      have hli := HL0.out
      by_cases c4 : i < l0.length
      · have c4b0 : decide ((i : Int) < (l0.length : Int)) = true := decide_eq_true (by omega)
        have c4b1 : decide (i < l0.length) = true := decide_eq_true c4
        have c5 : i < l1.length := by have := HN.out; omega
        have c5b1 : decide (i < l1.length) = true := decide_eq_true c5
        obtain ⟨z, g0⟩ : ∃ z, l0[i]? = some z := ⟨_, List.getElem?_eq_getElem c4⟩
        obtain ⟨y, g1⟩ : ∃ y, l1[i]? = some y := ⟨_, List.getElem?_eq_getElem c5⟩
        obtain ⟨ad, a1, m1, a2, m2, a3, m3, rfl, hx0, hx1, hx2, hx3, hl1, hi1, hl2, hi2, hl3, hi3⟩ := C_piece HR0.out i z g0
        obtain ⟨ae, b1, n1, b2, n2, b3, n3, rfl, hy0, hy1, hy2, hy3, gl1, gi1, gl2, gi2, gl3, gi3⟩ := C_piece HR1.out i y g1
        have HSN : Aside0 ((List.zipWith sameP (l0.take (i + 1)) (l1.take (i + 1))).all id = sameP z y) := ⟨by
          rw [take_snoc l0 i z g0, take_snoc l1 i y g1, List.zipWith_append (by simp; omega)]
          have := HA.out
          simp [this]⟩
        have HIN : Aside0 (sameP z y = false → (List.zipWith sameP l0 l1).all id = false) := ⟨fun e => by
          cases hq : (List.zipWith sameP l0 l1).all id with
          | false => rfl
          | true =>
            have := List.all_eq_true.1 hq (sameP z y) (by
              refine List.mem_of_getElem? (i := i) ?_
              rw [List.getElem?_zipWith, g0, g1])
            rw [e] at this
            exact absurd this (by decide)⟩
        have HX0 := Aside0.mk hx0
        have HX1 := Aside0.mk hx1
        have HX2 := Aside0.mk hx2
        have HX3 := Aside0.mk hx3
        have HY0 := Aside0.mk hy0
        have HY1 := Aside0.mk hy1
        have HY2 := Aside0.mk hy2
        have HY3 := Aside0.mk hy3
        have T1 := Aside0.mk hi1
        have T2 := Aside0.mk hi2
        have T3 := Aside0.mk hi3
        have U1 := Aside0.mk gi1
        have U2 := Aside0.mk gi2
        have U3 := Aside0.mk gi3
        have k0 := (HB.out.cell (World.block_lt_of_cell? w0 _ hx0)).trans hx0
        have k1 := (HB.out.cell (World.block_lt_of_cell? w0 _ hx1)).trans hx1
        have k2 := (HB.out.cell (World.block_lt_of_cell? w0 _ hx2)).trans hx2
        have k3 := (HB.out.cell (World.block_lt_of_cell? w0 _ hx3)).trans hx3
        have hB1 : Below w0.heap.size w0 (wr.alloc (.cells #[.bool z.f0, .slice a1 z.f1.length m1, .slice a2 z.f2.length m2, .slice a3 z.f3.length m3] 27)) := below_alloc HB.out _
        have j0 := (hB1.cell (World.block_lt_of_cell? w0 _ hy0)).trans hy0
        have j1 := (hB1.cell (World.block_lt_of_cell? w0 _ hy1)).trans hy1
        have j2 := (hB1.cell (World.block_lt_of_cell? w0 _ hy2)).trans hy2
        have j3 := (hB1.cell (World.block_lt_of_cell? w0 _ hy3)).trans hy3
        have W1b := Aside0.mk hB1
        clear hi1 hi2 hi3 gi1 gi2 gi3 g0 g1 hx0 hx1 hx2 hx3 hy0 hy1 hy2 hy3 hB1
        clear hli
        cases hs : sameP z y with
        | true =>
          rw [hs] at HSN
          have HS := Aside0.mk hs
          clear hs HIN
          go_wp2_with (go_at_call 54; (with_reducible refine (same54_c _ p z.f0 y.f0 z.f1 y.f1 z.f2 y.f2 z.f3 y.f3 a1 a2 a3 b1 b2 b3 m1 m2 m3 n1 n2 n3 ?hp ?hpl ?ha1 hl1 ?ha2 hl2 ?ha3 hl3 ?he1 gl1 ?he2 gl2 ?he3 gl3).mono ?_); (case hp => exact ((below_alloc W1b.out _).cell HPL.out).trans HP.out); (case hpl => exact Nat.lt_of_lt_of_le HPL.out (below_size (below_alloc W1b.out _))); (case ha1 => exact Kd.C_below T1.out (below_alloc W1b.out _)); (case ha2 => exact Kd.C_below T2.out (below_alloc W1b.out _)); (case ha3 => exact Kd.C_below T3.out (below_alloc W1b.out _)); (case he1 => exact Kd.C_below U1.out (below_alloc W1b.out _)); (case he2 => exact Kd.C_below U2.out (below_alloc W1b.out _)); (case he3 => exact Kd.C_below U3.out (below_alloc W1b.out _)); rintro e w' ⟨he, hb⟩; replace he : e = .returned (.bool true) := he.trans (by rw [show sameP ⟨z.f0, z.f1, z.f2, z.f3⟩ ⟨y.f0, y.f1, y.f2, y.f3⟩ = true from HS.out]); subst he; have n1_ := Aside0.mk (below_step (below_alloc W1b.out _) hb); clear hb)
          go_roundg (l0.length - (i + 1))
          case measure => have := HI.out; omega
          case rel => exact ⟨i + 1, by have := HI.out; have := HLE.out; first | rfl | (simp; unfold wrap64; omega), ⟨by omega, rfl⟩, ⟨HSN.out⟩, n1_⟩
        | false =>
          have HS := Aside0.mk hs
          have HIN2 := Aside0.mk (HIN.out hs)
          clear hs HIN
          go_wp2_with (go_at_call 54; (with_reducible refine (same54_c _ p z.f0 y.f0 z.f1 y.f1 z.f2 y.f2 z.f3 y.f3 a1 a2 a3 b1 b2 b3 m1 m2 m3 n1 n2 n3 ?hp ?hpl ?ha1 hl1 ?ha2 hl2 ?ha3 hl3 ?he1 gl1 ?he2 gl2 ?he3 gl3).mono ?_); (case hp => exact ((below_alloc W1b.out _).cell HPL.out).trans HP.out); (case hpl => exact Nat.lt_of_lt_of_le HPL.out (below_size (below_alloc W1b.out _))); (case ha1 => exact Kd.C_below T1.out (below_alloc W1b.out _)); (case ha2 => exact Kd.C_below T2.out (below_alloc W1b.out _)); (case ha3 => exact Kd.C_below T3.out (below_alloc W1b.out _)); (case he1 => exact Kd.C_below U1.out (below_alloc W1b.out _)); (case he2 => exact Kd.C_below U2.out (below_alloc W1b.out _)); (case he3 => exact Kd.C_below U3.out (below_alloc W1b.out _)); rintro e w' ⟨he, hb⟩; replace he : e = .returned (.bool false) := he.trans (by rw [show sameP ⟨z.f0, z.f1, z.f2, z.f3⟩ ⟨y.f0, y.f1, y.f2, y.f3⟩ = false from HS.out]); subst he; have n1_ := Aside0.mk (below_step (below_alloc W1b.out _) hb); clear hb)
          go_ret
          exact ⟨by rw [HIN2.out]; rfl, n1_.out⟩
      · have c4b0 : decide ((i : Int) < (l0.length : Int)) = false := decide_eq_false (by omega)
        have c4b1 : decide (i < l0.length) = false := decide_eq_false c4
        have HQ : Aside0 ((List.zipWith sameP l0 l1).all id = true) := ⟨by
          have := HA.out
          rwa [List.take_of_length_le (by omega), List.take_of_length_le (by have := HN.out; omega)] at this⟩
        go_wp2
        repeat (go_quiet (fail); try go_wp2)
        go_ret
        exact ⟨by rw [HQ.out]; rfl, HB.out⟩
  · have HN := Aside0.mk hlen
    have e1 : ((l0.length : Int) != (l1.length : Int)) = true := bne_iff_ne.mpr (by omega)
    have e2 : (l0.length != l1.length) = true := bne_iff_ne.mpr hlen
    clear hlen
    rw [decide_eq_false HN.out, Bool.false_and]
    go_enter Try.func53, Try.ntmps53
    go_wp2
    repeat (go_quiet (fail); try go_wp2)
    go_ret
    exact ⟨rfl, Below.refl _ _⟩

theorem sameP_all (a b : List S27) : (decide (a.length = b.length) && (List.zipWith sameP a b).all id) = true ↔ a = b := by
  induction a generalizing b with
  | nil => cases b <;> simp
  | cons x t ih =>
    cases b with
    | nil => simp
    | cons y u =>
      have := ih u
      simp only [Bool.and_eq_true, decide_eq_true_eq] at this
      simp only [List.length_cons, List.zipWith_cons_cons, List.all_cons, id_eq, Bool.and_eq_true, decide_eq_true_eq, List.cons.injEq, sameP_iff, ← this, Nat.add_right_cancel_iff]
      constructor
      · rintro ⟨h1, h2, h3⟩; exact ⟨h2, h1, h3⟩
      · rintro ⟨h1, h2, h3⟩; exact ⟨h2, h1, h3⟩
def sameG (a b : List S27) : Bool := decide (a.length = b.length) && (List.zipWith sameP a b).all id
def pick_Same.f (k : Nat) (l0 l1 : List S27) : Option Bool := if l0.length ≤ 1000000000 then some (sameG l0 l1) else none
theorem pick_Same.mono : ∀ a0 a1 k, LeO (pick_Same.f k a0 a1) (pick_Same.f (k + 1) a0 a1) := fun _ _ _ => LeO.refl _
set_option maxHeartbeats 1000000 in
theorem pick_Same.calls (k : Nat) (A0 : Option Addr) (c0 : Nat) (l0 : List S27) (A1 : Option Addr) (c1 : Nat) (l1 : List S27) (r : Bool) (w : World) (hr0 : Kd.C k27 w A0 l0.length l0) (hc0 : l0.length ≤ c0) (hr1 : Kd.C k27 w A1 l1.length l1) (hc1 : l1.length ≤ c1) (h : pick_Same.f k l0 l1 = some r) :
    Calls Try.prog 33 #[.slice A0 l0.length c0, .slice A1 l1.length c1] w fun e w' => e = .returned (.bool r) ∧ Below w.heap.size w w' := by
  unfold pick_Same.f at h
  by_cases hb : l0.length ≤ 1000000000
  · rw [if_pos hb] at h
    obtain rfl := Option.some.inj h
    have HC := Aside0.mk (equal53_c (w.alloc (.cells #[.func (.func 52) #[] #[]] 33)) ⟨w.heap.size, 0, none⟩ A0 c0 l0 A1 c1 l1 (cell_new _ _ _) (by simp) (Kd.C_alloc hr0 _) hc0 (Kd.C_alloc hr1 _) hc1 hb)
    have HB := Aside0.mk (below_alloc (Below.refl w.heap.size w) (.cells #[.func (.func 52) #[] #[]] 33))
    clear hr0 hc0 hr1 hc1 hb h
    show Calls Try.prog 33 _ w fun e w' => e = .returned (.bool (decide (l0.length = l1.length) && (List.zipWith sameP l0 l1).all id)) ∧ Below w.heap.size w w'
    generalize (decide (l0.length = l1.length) && (List.zipWith sameP l0 l1).all id) = b at HC ⊢
    go_enter Try.func33, Try.ntmps33
    go_wp2_with (go_at_call 53; (with_reducible refine HC.out.mono ?_); rintro e w' ⟨rfl, hb⟩; have HB2 := Aside0.mk (HB.out.trans (hb.mono (by simp))); clear hb)
    go_ret
    exact ⟨rfl, HB2.out⟩
  · rw [if_neg hb] at h
    exact absurd h (by simp)
end Go.Proofs.Ytiaoppikdgoieaa.M
namespace Go.Proofs.Ytiaoppikdgoieaa.M
open Go.RowKit Go.Proofs.YtiaoppikdgoieaaW.PrintWords Go.Proofs.YtiaoppikdgoieaaW.PrintLast Go.Proofs.YtiaoppikdgoieaaW.PrintMore Go.Proofs.Ytiaoppikdgoieaa.Hand
attribute [local go_sem] max2_int min2_int max_two min_two max_three min_three max_four min_four
set_option linter.unusedVariables false
set_option linter.unusedSimpArgs false

/-! ### sennitlaw07_awake: function 19 -/
def sennitlaw07_awake.f (k : Nat)  : Option (Bool) := (pick_Piece.f k (([(⟨#[97]⟩ : ByteArray)] : List ByteArray)) (([(([(⟨#[98]⟩ : ByteArray)] : List ByteArray)), (([(⟨#[99]⟩ : ByteArray)] : List ByteArray))] : List (List ByteArray))) 0 false).bind fun bt137 => ((pick_Normal.f k (([(⟨false, (([(⟨#[120]⟩ : ByteArray)] : List ByteArray)), ([] : List ByteArray), ([] : List (List ByteArray))⟩ : S27), (⟨false, ([] : List ByteArray), ([] : List ByteArray), ([] : List (List ByteArray))⟩ : S27), (⟨false, (([(⟨#[121]⟩ : ByteArray)] : List ByteArray)), ([] : List ByteArray), ([] : List (List ByteArray))⟩ : S27), (⟨bt137.1, bt137.2.1, bt137.2.2.1, bt137.2.2.2⟩ : S27)] : List (S27)))).bind fun t157 => ((pick_Choose.f k t157 2).bind fun t160 => (if bt137.1 = true then (if (bt137.2.2.2.length : Int) = 2 then (if (t157.length : Int) = 2 then (if 0 < (t157.length : Int) then (if (((rd_T27 t157 0).f1).length : Int) = 2 then ((pick_Clean.f k t157).bind fun t164 => (if t164 = true then (none) else (if (t160.length : Int) = 3 then (if 2 < (t160.length : Int) then (if (rdOf ByteArray.empty t160 2).toList = ([99] : List UInt8) then ((pick_Same.f k t157 t157).bind fun t166 => (some t166)) else (none)) else (none)) else (none)))) else (none)) else (none)) else (none)) else (none)) else (none))))
theorem sennitlaw07_awake.mono : ∀ k, LeO (sennitlaw07_awake.f k ) (sennitlaw07_awake.f (k + 1) ) := by
  intro  k
  unfold sennitlaw07_awake.f
  repeat' first
      | (with_reducible exact pick_Choose.mono _ _ _)
      | (with_reducible exact pick_Clean.mono _ _)
      | (with_reducible exact pick_Normal.mono _ _)
      | (with_reducible exact pick_Piece.mono _ _ _ _ _)
      | (with_reducible exact pick_Same.mono _ _ _)
      | (with_reducible exact LeO.refl _)
      | (with_reducible exact LeO.none _)
      | (with_reducible refine LeO.ite ?_ ?_)
      | (with_reducible refine LeO.bind ?_ (fun _ => ?_))
      | exact pick_Choose.mono _ _ _
      | exact pick_Clean.mono _ _
      | exact pick_Normal.mono _ _
      | exact pick_Piece.mono _ _ _ _ _
      | exact pick_Same.mono _ _ _
      | exact LeO.none _
      | refine LeO.ite ?_ ?_
      | refine LeO.bind ?_ (fun _ => ?_)
set_option maxHeartbeats 8000000 in
set_option maxRecDepth 100000 in
theorem sennitlaw07_awake.calls (k : Nat)  (r : Bool) (w : World) (h : sennitlaw07_awake.f k  = some r) :
    Calls Try.prog 19 #[] w fun e w' => e = .returned (.bool r) ∧ Below w.heap.size w w' := by
  have hu30 := Try.underlying30
  have hu27 := Try.underlying27
  have HB := am (Below.refl w.heap.size w)
  have H : ((pick_Piece.f k (([(⟨#[97]⟩ : ByteArray)] : List ByteArray)) (([(([(⟨#[98]⟩ : ByteArray)] : List ByteArray)), (([(⟨#[99]⟩ : ByteArray)] : List ByteArray))] : List (List ByteArray))) 0 false).bind fun bt137 => ((pick_Normal.f k (([(⟨false, (([(⟨#[120]⟩ : ByteArray)] : List ByteArray)), ([] : List ByteArray), ([] : List (List ByteArray))⟩ : S27), (⟨false, ([] : List ByteArray), ([] : List ByteArray), ([] : List (List ByteArray))⟩ : S27), (⟨false, (([(⟨#[121]⟩ : ByteArray)] : List ByteArray)), ([] : List ByteArray), ([] : List (List ByteArray))⟩ : S27), (⟨bt137.1, bt137.2.1, bt137.2.2.1, bt137.2.2.2⟩ : S27)] : List (S27)))).bind fun t157 => ((pick_Choose.f k t157 2).bind fun t160 => (if bt137.1 = true then (if (bt137.2.2.2.length : Int) = 2 then (if (t157.length : Int) = 2 then (if 0 < (t157.length : Int) then (if (((rd_T27 t157 0).f1).length : Int) = 2 then ((pick_Clean.f k t157).bind fun t164 => (if t164 = true then (none) else (if (t160.length : Int) = 3 then (if 2 < (t160.length : Int) then (if (rdOf ByteArray.empty t160 2).toList = ([99] : List UInt8) then ((pick_Same.f k t157 t157).bind fun t166 => (some t166)) else (none)) else (none)) else (none)))) else (none)) else (none)) else (none)) else (none)) else (none))))) = some r := h
  clear h
  obtain ⟨y125, hy125⟩ : ∃ y_ : List ByteArray, y_ = (([(⟨#[97]⟩ : ByteArray)] : List ByteArray)) := ⟨_, rfl⟩
  replace H : ((pick_Piece.f k y125 (([(([(⟨#[98]⟩ : ByteArray)] : List ByteArray)), (([(⟨#[99]⟩ : ByteArray)] : List ByteArray))] : List (List ByteArray))) 0 false).bind fun bt137 => ((pick_Normal.f k (([(⟨false, (([(⟨#[120]⟩ : ByteArray)] : List ByteArray)), ([] : List ByteArray), ([] : List (List ByteArray))⟩ : S27), (⟨false, ([] : List ByteArray), ([] : List ByteArray), ([] : List (List ByteArray))⟩ : S27), (⟨false, (([(⟨#[121]⟩ : ByteArray)] : List ByteArray)), ([] : List ByteArray), ([] : List (List ByteArray))⟩ : S27), (⟨bt137.1, bt137.2.1, bt137.2.2.1, bt137.2.2.2⟩ : S27)] : List (S27)))).bind fun t157 => ((pick_Choose.f k t157 2).bind fun t160 => (if bt137.1 = true then (if (bt137.2.2.2.length : Int) = 2 then (if (t157.length : Int) = 2 then (if 0 < (t157.length : Int) then (if (((rd_T27 t157 0).f1).length : Int) = 2 then ((pick_Clean.f k t157).bind fun t164 => (if t164 = true then (none) else (if (t160.length : Int) = 3 then (if 2 < (t160.length : Int) then (if (rdOf ByteArray.empty t160 2).toList = ([99] : List UInt8) then ((pick_Same.f k t157 t157).bind fun t166 => (some t166)) else (none)) else (none)) else (none)))) else (none)) else (none)) else (none)) else (none)) else (none))))) = some r := by first | (rw [hy125]; with_reducible exact H) | (have H2_ := (Option.bind_some _ _).symm.trans H; rw [hy125]; with_reducible exact H2_) | (have H2_ := (Option.bind_some _ _).symm.trans H; with_reducible exact H2_) | with_reducible exact H | (rw [hy125]; exact H) | exact H
  have Ny125 := am hy125
  clear hy125
  obtain ⟨y128, hy128⟩ : ∃ y_ : List ByteArray, y_ = (([(⟨#[98]⟩ : ByteArray)] : List ByteArray)) := ⟨_, rfl⟩
  replace H : ((pick_Piece.f k y125 (([y128, (([(⟨#[99]⟩ : ByteArray)] : List ByteArray))] : List (List ByteArray))) 0 false).bind fun bt137 => ((pick_Normal.f k (([(⟨false, (([(⟨#[120]⟩ : ByteArray)] : List ByteArray)), ([] : List ByteArray), ([] : List (List ByteArray))⟩ : S27), (⟨false, ([] : List ByteArray), ([] : List ByteArray), ([] : List (List ByteArray))⟩ : S27), (⟨false, (([(⟨#[121]⟩ : ByteArray)] : List ByteArray)), ([] : List ByteArray), ([] : List (List ByteArray))⟩ : S27), (⟨bt137.1, bt137.2.1, bt137.2.2.1, bt137.2.2.2⟩ : S27)] : List (S27)))).bind fun t157 => ((pick_Choose.f k t157 2).bind fun t160 => (if bt137.1 = true then (if (bt137.2.2.2.length : Int) = 2 then (if (t157.length : Int) = 2 then (if 0 < (t157.length : Int) then (if (((rd_T27 t157 0).f1).length : Int) = 2 then ((pick_Clean.f k t157).bind fun t164 => (if t164 = true then (none) else (if (t160.length : Int) = 3 then (if 2 < (t160.length : Int) then (if (rdOf ByteArray.empty t160 2).toList = ([99] : List UInt8) then ((pick_Same.f k t157 t157).bind fun t166 => (some t166)) else (none)) else (none)) else (none)))) else (none)) else (none)) else (none)) else (none)) else (none))))) = some r := by first | (rw [hy128]; with_reducible exact H) | (have H2_ := (Option.bind_some _ _).symm.trans H; rw [hy128]; with_reducible exact H2_) | (have H2_ := (Option.bind_some _ _).symm.trans H; with_reducible exact H2_) | with_reducible exact H | (rw [hy128]; exact H) | exact H
  have Ny128 := am hy128
  clear hy128
  obtain ⟨y131, hy131⟩ : ∃ y_ : List ByteArray, y_ = (([(⟨#[99]⟩ : ByteArray)] : List ByteArray)) := ⟨_, rfl⟩
  replace H : ((pick_Piece.f k y125 (([y128, y131] : List (List ByteArray))) 0 false).bind fun bt137 => ((pick_Normal.f k (([(⟨false, (([(⟨#[120]⟩ : ByteArray)] : List ByteArray)), ([] : List ByteArray), ([] : List (List ByteArray))⟩ : S27), (⟨false, ([] : List ByteArray), ([] : List ByteArray), ([] : List (List ByteArray))⟩ : S27), (⟨false, (([(⟨#[121]⟩ : ByteArray)] : List ByteArray)), ([] : List ByteArray), ([] : List (List ByteArray))⟩ : S27), (⟨bt137.1, bt137.2.1, bt137.2.2.1, bt137.2.2.2⟩ : S27)] : List (S27)))).bind fun t157 => ((pick_Choose.f k t157 2).bind fun t160 => (if bt137.1 = true then (if (bt137.2.2.2.length : Int) = 2 then (if (t157.length : Int) = 2 then (if 0 < (t157.length : Int) then (if (((rd_T27 t157 0).f1).length : Int) = 2 then ((pick_Clean.f k t157).bind fun t164 => (if t164 = true then (none) else (if (t160.length : Int) = 3 then (if 2 < (t160.length : Int) then (if (rdOf ByteArray.empty t160 2).toList = ([99] : List UInt8) then ((pick_Same.f k t157 t157).bind fun t166 => (some t166)) else (none)) else (none)) else (none)))) else (none)) else (none)) else (none)) else (none)) else (none))))) = some r := by first | (rw [hy131]; with_reducible exact H) | (have H2_ := (Option.bind_some _ _).symm.trans H; rw [hy131]; with_reducible exact H2_) | (have H2_ := (Option.bind_some _ _).symm.trans H; with_reducible exact H2_) | with_reducible exact H | (rw [hy131]; exact H) | exact H
  have Ny131 := am hy131
  clear hy131
  obtain ⟨y134, hy134⟩ : ∃ y_ : List (List ByteArray), y_ = (([y128, y131] : List (List ByteArray))) := ⟨_, rfl⟩
  replace H : ((pick_Piece.f k y125 y134 0 false).bind fun bt137 => ((pick_Normal.f k (([(⟨false, (([(⟨#[120]⟩ : ByteArray)] : List ByteArray)), ([] : List ByteArray), ([] : List (List ByteArray))⟩ : S27), (⟨false, ([] : List ByteArray), ([] : List ByteArray), ([] : List (List ByteArray))⟩ : S27), (⟨false, (([(⟨#[121]⟩ : ByteArray)] : List ByteArray)), ([] : List ByteArray), ([] : List (List ByteArray))⟩ : S27), (⟨bt137.1, bt137.2.1, bt137.2.2.1, bt137.2.2.2⟩ : S27)] : List (S27)))).bind fun t157 => ((pick_Choose.f k t157 2).bind fun t160 => (if bt137.1 = true then (if (bt137.2.2.2.length : Int) = 2 then (if (t157.length : Int) = 2 then (if 0 < (t157.length : Int) then (if (((rd_T27 t157 0).f1).length : Int) = 2 then ((pick_Clean.f k t157).bind fun t164 => (if t164 = true then (none) else (if (t160.length : Int) = 3 then (if 2 < (t160.length : Int) then (if (rdOf ByteArray.empty t160 2).toList = ([99] : List UInt8) then ((pick_Same.f k t157 t157).bind fun t166 => (some t166)) else (none)) else (none)) else (none)))) else (none)) else (none)) else (none)) else (none)) else (none))))) = some r := by first | (rw [hy134]; with_reducible exact H) | (have H2_ := (Option.bind_some _ _).symm.trans H; rw [hy134]; with_reducible exact H2_) | (have H2_ := (Option.bind_some _ _).symm.trans H; with_reducible exact H2_) | with_reducible exact H | (rw [hy134]; exact H) | exact H
  have Ny134 := am hy134
  clear hy134
  replace H := Option.bind_eq_some_iff.mp H
  obtain ⟨⟨t137, t138, t141, t144⟩, A10, H⟩ := H
  replace H : ((pick_Normal.f k (([(⟨false, (([(⟨#[120]⟩ : ByteArray)] : List ByteArray)), ([] : List ByteArray), ([] : List (List ByteArray))⟩ : S27), (⟨false, ([] : List ByteArray), ([] : List ByteArray), ([] : List (List ByteArray))⟩ : S27), (⟨false, (([(⟨#[121]⟩ : ByteArray)] : List ByteArray)), ([] : List ByteArray), ([] : List (List ByteArray))⟩ : S27), (⟨t137, t138, t141, t144⟩ : S27)] : List (S27)))).bind fun t157 => ((pick_Choose.f k t157 2).bind fun t160 => (if t137 = true then (if (t144.length : Int) = 2 then (if (t157.length : Int) = 2 then (if 0 < (t157.length : Int) then (if (((rd_T27 t157 0).f1).length : Int) = 2 then ((pick_Clean.f k t157).bind fun t164 => (if t164 = true then (none) else (if (t160.length : Int) = 3 then (if 2 < (t160.length : Int) then (if (rdOf ByteArray.empty t160 2).toList = ([99] : List UInt8) then ((pick_Same.f k t157 t157).bind fun t166 => (some t166)) else (none)) else (none)) else (none)))) else (none)) else (none)) else (none)) else (none)) else (none)))) = some r := H
  have A1 := am A10
  clear A10
  obtain ⟨y148, hy148⟩ : ∃ y_ : List ByteArray, y_ = (([(⟨#[120]⟩ : ByteArray)] : List ByteArray)) := ⟨_, rfl⟩
  replace H : ((pick_Normal.f k (([(⟨false, y148, ([] : List ByteArray), ([] : List (List ByteArray))⟩ : S27), (⟨false, ([] : List ByteArray), ([] : List ByteArray), ([] : List (List ByteArray))⟩ : S27), (⟨false, (([(⟨#[121]⟩ : ByteArray)] : List ByteArray)), ([] : List ByteArray), ([] : List (List ByteArray))⟩ : S27), (⟨t137, t138, t141, t144⟩ : S27)] : List (S27)))).bind fun t157 => ((pick_Choose.f k t157 2).bind fun t160 => (if t137 = true then (if (t144.length : Int) = 2 then (if (t157.length : Int) = 2 then (if 0 < (t157.length : Int) then (if (((rd_T27 t157 0).f1).length : Int) = 2 then ((pick_Clean.f k t157).bind fun t164 => (if t164 = true then (none) else (if (t160.length : Int) = 3 then (if 2 < (t160.length : Int) then (if (rdOf ByteArray.empty t160 2).toList = ([99] : List UInt8) then ((pick_Same.f k t157 t157).bind fun t166 => (some t166)) else (none)) else (none)) else (none)))) else (none)) else (none)) else (none)) else (none)) else (none)))) = some r := by first | (rw [hy148]; with_reducible exact H) | (have H2_ := (Option.bind_some _ _).symm.trans H; rw [hy148]; with_reducible exact H2_) | (have H2_ := (Option.bind_some _ _).symm.trans H; with_reducible exact H2_) | with_reducible exact H | (rw [hy148]; exact H) | exact H
  have Ny148 := am hy148
  clear hy148
  obtain ⟨y151, hy151⟩ : ∃ y_ : List ByteArray, y_ = (([(⟨#[121]⟩ : ByteArray)] : List ByteArray)) := ⟨_, rfl⟩
  replace H : ((pick_Normal.f k (([(⟨false, y148, ([] : List ByteArray), ([] : List (List ByteArray))⟩ : S27), (⟨false, ([] : List ByteArray), ([] : List ByteArray), ([] : List (List ByteArray))⟩ : S27), (⟨false, y151, ([] : List ByteArray), ([] : List (List ByteArray))⟩ : S27), (⟨t137, t138, t141, t144⟩ : S27)] : List (S27)))).bind fun t157 => ((pick_Choose.f k t157 2).bind fun t160 => (if t137 = true then (if (t144.length : Int) = 2 then (if (t157.length : Int) = 2 then (if 0 < (t157.length : Int) then (if (((rd_T27 t157 0).f1).length : Int) = 2 then ((pick_Clean.f k t157).bind fun t164 => (if t164 = true then (none) else (if (t160.length : Int) = 3 then (if 2 < (t160.length : Int) then (if (rdOf ByteArray.empty t160 2).toList = ([99] : List UInt8) then ((pick_Same.f k t157 t157).bind fun t166 => (some t166)) else (none)) else (none)) else (none)))) else (none)) else (none)) else (none)) else (none)) else (none)))) = some r := by first | (rw [hy151]; with_reducible exact H) | (have H2_ := (Option.bind_some _ _).symm.trans H; rw [hy151]; with_reducible exact H2_) | (have H2_ := (Option.bind_some _ _).symm.trans H; with_reducible exact H2_) | with_reducible exact H | (rw [hy151]; exact H) | exact H
  have Ny151 := am hy151
  clear hy151
  obtain ⟨y154, hy154⟩ : ∃ y_ : List (S27), y_ = (([(⟨false, y148, ([] : List ByteArray), ([] : List (List ByteArray))⟩ : S27), (⟨false, ([] : List ByteArray), ([] : List ByteArray), ([] : List (List ByteArray))⟩ : S27), (⟨false, y151, ([] : List ByteArray), ([] : List (List ByteArray))⟩ : S27), (⟨t137, t138, t141, t144⟩ : S27)] : List (S27))) := ⟨_, rfl⟩
  replace H : ((pick_Normal.f k y154).bind fun t157 => ((pick_Choose.f k t157 2).bind fun t160 => (if t137 = true then (if (t144.length : Int) = 2 then (if (t157.length : Int) = 2 then (if 0 < (t157.length : Int) then (if (((rd_T27 t157 0).f1).length : Int) = 2 then ((pick_Clean.f k t157).bind fun t164 => (if t164 = true then (none) else (if (t160.length : Int) = 3 then (if 2 < (t160.length : Int) then (if (rdOf ByteArray.empty t160 2).toList = ([99] : List UInt8) then ((pick_Same.f k t157 t157).bind fun t166 => (some t166)) else (none)) else (none)) else (none)))) else (none)) else (none)) else (none)) else (none)) else (none)))) = some r := by first | (rw [hy154]; with_reducible exact H) | (have H2_ := (Option.bind_some _ _).symm.trans H; rw [hy154]; with_reducible exact H2_) | (have H2_ := (Option.bind_some _ _).symm.trans H; with_reducible exact H2_) | with_reducible exact H | (rw [hy154]; exact H) | exact H
  have Ny154 := am hy154
  clear hy154
  replace H := Option.bind_eq_some_iff.mp H
  obtain ⟨t157, A20, H⟩ := H
  replace H : ((pick_Choose.f k t157 2).bind fun t160 => (if t137 = true then (if (t144.length : Int) = 2 then (if (t157.length : Int) = 2 then (if 0 < (t157.length : Int) then (if (((rd_T27 t157 0).f1).length : Int) = 2 then ((pick_Clean.f k t157).bind fun t164 => (if t164 = true then (none) else (if (t160.length : Int) = 3 then (if 2 < (t160.length : Int) then (if (rdOf ByteArray.empty t160 2).toList = ([99] : List UInt8) then ((pick_Same.f k t157 t157).bind fun t166 => (some t166)) else (none)) else (none)) else (none)))) else (none)) else (none)) else (none)) else (none)) else (none))) = some r := H
  have A2 := am A20
  clear A20
  replace H := Option.bind_eq_some_iff.mp H
  obtain ⟨t160, A30, H⟩ := H
  replace H : (if t137 = true then (if (t144.length : Int) = 2 then (if (t157.length : Int) = 2 then (if 0 < (t157.length : Int) then (if (((rd_T27 t157 0).f1).length : Int) = 2 then ((pick_Clean.f k t157).bind fun t164 => (if t164 = true then (none) else (if (t160.length : Int) = 3 then (if 2 < (t160.length : Int) then (if (rdOf ByteArray.empty t160 2).toList = ([99] : List UInt8) then ((pick_Same.f k t157 t157).bind fun t166 => (some t166)) else (none)) else (none)) else (none)))) else (none)) else (none)) else (none)) else (none)) else (none)) = some r := H
  have A3 := am A30
  clear A30
  by_cases c4 : t137 = true
  · subst c4
    have H1 : (if (t144.length : Int) = 2 then (if (t157.length : Int) = 2 then (if 0 < (t157.length : Int) then (if (((rd_T27 t157 0).f1).length : Int) = 2 then ((pick_Clean.f k t157).bind fun t164 => (if t164 = true then (none) else (if (t160.length : Int) = 3 then (if 2 < (t160.length : Int) then (if (rdOf ByteArray.empty t160 2).toList = ([99] : List UInt8) then ((pick_Same.f k t157 t157).bind fun t166 => (some t166)) else (none)) else (none)) else (none)))) else (none)) else (none)) else (none)) else (none)) = some r := by rw [if_pos rfl] at H; exact H
    clear H
    have H := H1
    clear H1
    by_cases c5 : (t144.length : Int) = 2
    · rw [if_pos c5] at H
      have c5b0 : ((t144.length : Int) == 2) = true := beq_iff_eq.mpr c5
      have c5b1 : ((t144.length : Int) != 2) = false := bne_eq_false_iff_eq.mpr c5
      clear c5
      by_cases c6 : (t157.length : Int) = 2
      · rw [if_pos c6] at H
        have c6b0 : ((t157.length : Int) == 2) = true := beq_iff_eq.mpr c6
        have c6b1 : ((t157.length : Int) != 2) = false := bne_eq_false_iff_eq.mpr c6
        clear c6
        by_cases c7 : 0 < (t157.length : Int)
        · rw [if_pos c7] at H
          have c7b0 : decide (0 < (t157.length : Int)) = true := decide_eq_true c7
          have c7b1 : decide (0 < t157.length) = true := decide_eq_true (by omega)
          clear c7
          by_cases c8 : (((rd_T27 t157 0).f1).length : Int) = 2
          · rw [if_pos c8] at H
            have c8b0 : ((((rd_T27 t157 0).f1).length : Int) == 2) = true := beq_iff_eq.mpr c8
            have c8b1 : ((((rd_T27 t157 0).f1).length : Int) != 2) = false := bne_eq_false_iff_eq.mpr c8
            clear c8
            replace H := Option.bind_eq_some_iff.mp H
            obtain ⟨t164, A90, H⟩ := H
            replace H : (if t164 = true then (none) else (if (t160.length : Int) = 3 then (if 2 < (t160.length : Int) then (if (rdOf ByteArray.empty t160 2).toList = ([99] : List UInt8) then ((pick_Same.f k t157 t157).bind fun t166 => (some t166)) else (none)) else (none)) else (none))) = some r := H
            have A9 := am A90
            clear A90
            by_cases c10 : t164 = true
            · subst c10
              have H1 : (none) = some r := by rw [if_pos rfl] at H; exact H
              clear H
              have H := H1
              clear H1
              exact absurd H (by simp)
            · replace c10 := Bool.eq_false_iff.mpr c10
              subst c10
              have H1 : (if (t160.length : Int) = 3 then (if 2 < (t160.length : Int) then (if (rdOf ByteArray.empty t160 2).toList = ([99] : List UInt8) then ((pick_Same.f k t157 t157).bind fun t166 => (some t166)) else (none)) else (none)) else (none)) = some r := by rw [if_neg (show ¬ (false = true) by decide)] at H; exact H
              clear H
              have H := H1
              clear H1
              by_cases c44 : (t160.length : Int) = 3
              · rw [if_pos c44] at H
                have c44b0 : ((t160.length : Int) == 3) = true := beq_iff_eq.mpr c44
                have c44b1 : ((t160.length : Int) != 3) = false := bne_eq_false_iff_eq.mpr c44
                clear c44
                by_cases c45 : 2 < (t160.length : Int)
                · rw [if_pos c45] at H
                  have c45b0 : decide (2 < (t160.length : Int)) = true := decide_eq_true c45
                  have c45b1 : decide (2 < t160.length) = true := decide_eq_true (by omega)
                  clear c45
                  by_cases c46 : (rdOf ByteArray.empty t160 2).toList = ([99] : List UInt8)
                  · rw [if_pos c46] at H
                    have c46b0 : ((rdOf ByteArray.empty t160 2).toList == ([99] : List UInt8)) = true := beq_iff_eq.mpr c46
                    have c46b1 : ((rdOf ByteArray.empty t160 2).toList != ([99] : List UInt8)) = false := bne_eq_false_iff_eq.mpr c46
                    clear c46
                    replace H := Option.bind_eq_some_iff.mp H
                    obtain ⟨t166, A470, H⟩ := H
                    replace H : (some t166) = some r := H
                    have A47 := am A470
                    clear A470
                    obtain rfl := Option.some.inj H
                    go_enter Try.func19, Try.ntmps19
                    go_wp2_with (first | ((with_reducible refine gate_dst (N := 4) rfl ?_); (try (refine gate_guard (by rfl) ?_; dsimp only)); refine Kd.R_lit Kd.string _ 9 ?hg (N := 4) ?hd (xs := ([(⟨#[97]⟩ : ByteArray)] : List ByteArray)) (inner := [.string (⟨#[97]⟩ : ByteArray)]) (ok := fun _ => True) (okp := fun _ => True) ?hr ?hp (fun _ hk => hk) trivial (Below.refl _ _) (Nat.le_refl _) (by simp) ?_; (case hd => rfl); (case hg => rfl); (case hr => first | (go_simp; done) | (go_simp; rfl)); (case hp => exact (Reps.one (show Kd.M Kd.string _ _ _ (⟨#[97]⟩ : ByteArray) [.string (⟨#[97]⟩ : ByteArray)] from rfl) (Reps.none _ _))); intro v126 w48 ho49 hb hg_ hnew_; clear hg_ hnew_; rw [← Ny125.out] at ho49; have n0_ := am (Kd.R_lower ho49 (below_size (by repeat (with_reducible first | exact HB.out | apply bA | apply bN | apply bD)))); have n1_ := am (below_step (by repeat (with_reducible first | exact HB.out | apply bA | apply bN | apply bD)) hb); clear HB; have HO127 := n0_; have HB := n1_; clear n0_ n1_; clear hb ho49) | ((with_reducible refine gate_dst (N := 5) rfl ?_); (try (refine gate_guard (by rfl) ?_; dsimp only)); refine Kd.R_lit Kd.string _ 9 ?hg (N := 5) ?hd (xs := ([(⟨#[98]⟩ : ByteArray)] : List ByteArray)) (inner := [.string (⟨#[98]⟩ : ByteArray)]) (ok := fun _ => True) (okp := fun _ => True) ?hr ?hp (fun _ hk => hk) trivial (Below.refl _ _) (Nat.le_refl _) (by simp) ?_; (case hd => rfl); (case hg => rfl); (case hr => first | (go_simp; done) | (go_simp; rfl)); (case hp => exact (Reps.one (show Kd.M Kd.string _ _ _ (⟨#[98]⟩ : ByteArray) [.string (⟨#[98]⟩ : ByteArray)] from rfl) (Reps.none _ _))); intro v129 w50 ho51 hb hg_ hnew_; clear hg_ hnew_; rw [← Ny128.out] at ho51; have n0_ := am (Kd.R_elder' (by (with_reducible repeat (first | apply rA | apply rN | apply rD)); exact HO127.out) (Kd.R_base ho51) hb); have n1_ := am (Kd.R_lower (Kd.R_new' ho51 (Kd.R_lt (by (with_reducible repeat (first | apply rA | apply rN | apply rD)); exact HO127.out))) (below_size (by repeat (with_reducible first | exact HB.out | apply bA | apply bN | apply bD)))); have n2_ := am (below_step (by repeat (with_reducible first | exact HB.out | apply bA | apply bN | apply bD)) hb); clear HO127; clear HB; have HO127 := n0_; have HO130 := n1_; have HB := n2_; clear n0_ n1_ n2_; clear hb ho51) | ((with_reducible refine gate_dst (N := 6) rfl ?_); (try (refine gate_guard (by rfl) ?_; dsimp only)); refine Kd.R_lit Kd.string _ 9 ?hg (N := 6) ?hd (xs := ([(⟨#[99]⟩ : ByteArray)] : List ByteArray)) (inner := [.string (⟨#[99]⟩ : ByteArray)]) (ok := fun _ => True) (okp := fun _ => True) ?hr ?hp (fun _ hk => hk) trivial (Below.refl _ _) (Nat.le_refl _) (by simp) ?_; (case hd => rfl); (case hg => rfl); (case hr => first | (go_simp; done) | (go_simp; rfl)); (case hp => exact (Reps.one (show Kd.M Kd.string _ _ _ (⟨#[99]⟩ : ByteArray) [.string (⟨#[99]⟩ : ByteArray)] from rfl) (Reps.none _ _))); intro v132 w52 ho53 hb hg_ hnew_; clear hg_ hnew_; rw [← Ny131.out] at ho53; have n0_ := am (Kd.R_elder' (by (with_reducible repeat (first | apply rA | apply rN | apply rD)); exact HO127.out) (Kd.R_base ho53) hb); have n1_ := am (Kd.R_elder' (by (with_reducible repeat (first | apply rA | apply rN | apply rD)); exact HO130.out) (Kd.R_base ho53) hb); have n2_ := am (Kd.R_lower (Kd.R_new' (Kd.R_new' ho53 (Kd.R_lt (by (with_reducible repeat (first | apply rA | apply rN | apply rD)); exact HO127.out))) (Kd.R_lt (by (with_reducible repeat (first | apply rA | apply rN | apply rD)); exact HO130.out))) (below_size (by repeat (with_reducible first | exact HB.out | apply bA | apply bN | apply bD)))); have n3_ := am (below_step (by repeat (with_reducible first | exact HB.out | apply bA | apply bN | apply bD)) hb); clear HO127; clear HO130; clear HB; have HO127 := n0_; have HO130 := n1_; have HO133 := n2_; have HB := n3_; clear n0_ n1_ n2_ n3_; clear hb ho53; obtain ⟨Ao54, co54, eo54⟩ := Kd.R_slice HO130.out; subst eo54; obtain ⟨Ao55, co55, eo55⟩ := Kd.R_slice HO133.out; subst eo55) | ((with_reducible refine gate_dst (N := 7) rfl ?_); (try (refine gate_guard (by rfl) ?_; dsimp only)); refine Kd.N_lit (Kd.slice 9 Kd.string) _ 22 ?hg (N' := 7) ?hd (xs := ([y128, y131] : List (List ByteArray))) (inner := [.slice Ao54 y128.length co54, .slice Ao55 y131.length co55]) (ok := (fun k_ => some k_ ≠ (v126 : Value).ownBlock)) (okp := (fun k_ => some k_ ≠ (v126 : Value).ownBlock)) ?hr ?hp (fun _ hk => hk) ((show ∀ k_, w52.heap.size ≤ k_ → (fun k_ => some k_ ≠ (v126 : Value).ownBlock) k_ from fun k_ hk => Kd.fresh' (Kd.R_lt (by (with_reducible repeat (first | apply rA | apply rN | apply rD)); exact HO127.out)) k_ hk) _ (Nat.le_refl _)) (Below.refl _ _) (Nat.le_refl _) (by simp) ?_; (case hd => rfl); (case hg => rfl); (case hr => first | (go_simp; done) | (go_simp; rfl)); (case hp => exact (Reps.one (show Kd.FK (Kd.slice 9 Kd.string) _ _ y128 [.slice Ao54 y128.length co54] from (Kd.FK_slice_mk (Kd.R_reads' (Kd.R_mono (ok' := (fun k_ => some k_ ≠ (v126 : Value).ownBlock)) (HO130.out) (fun k_ hk => hk.1.2))).2.1 (Kd.R_F (Kd.R_mono (ok' := (fun k_ => some k_ ≠ (v126 : Value).ownBlock)) (HO130.out) (fun k_ hk => hk.1.2))))) (Reps.one (show Kd.FK (Kd.slice 9 Kd.string) _ _ y131 [.slice Ao55 y131.length co55] from (Kd.FK_slice_mk (Kd.R_reads' (Kd.R_mono (ok' := (fun k_ => some k_ ≠ (v126 : Value).ownBlock)) (HO133.out) (fun k_ hk => hk.1.2))).2.1 (Kd.R_F (Kd.R_mono (ok' := (fun k_ => some k_ ≠ (v126 : Value).ownBlock)) (HO133.out) (fun k_ hk => hk.1.2))))) (Reps.none _ _)))); intro v135 w56 ho57 hb hg_ hnew_; clear hg_ hnew_; rw [← Ny134.out] at ho57; have n0_ := am (Kd.R_below (by (with_reducible repeat (first | apply rA | apply rN | apply rD)); exact HO127.out) hb); have n1_ := am (Kd.N_lower ho57 (below_size (by repeat (with_reducible first | exact HB.out | apply bA | apply bN | apply bD)))); have n2_ := am (below_step (by repeat (with_reducible first | exact HB.out | apply bA | apply bN | apply bD)) hb); clear HO127; clear HB; clear HO130; clear HO133; have HO127 := n0_; have HO136 := n1_; have HB := n2_; clear n0_ n1_ n2_; clear hb ho57; obtain ⟨Ao58, co58, eo58⟩ := Kd.R_slice HO127.out; subst eo58; obtain ⟨Ao59, co59, eo59⟩ := Kd.N_slice HO136.out; subst eo59) | ((with_reducible refine gate_callee (f := 21) rfl ?_); refine goesL_ (some 9) rfl rfl Try.func21 (by kernel_rfl) rfl #[.slice Ao58 y125.length co58, .slice Ao59 y134.length co59, .agg #[.int .i64 0, .bool false]] rfl (by (try simp only [List.map_toArray, List.map_cons, List.map_nil]); first | done | rfl | (simp only [List.length_drop, List.length_take]; rfl)) ?_; (with_reducible refine (pick_Piece.calls k (fun k_ => some k_ = (.slice Ao58 y125.length co58 : Value).ownBlock) _ _ y125 (fun k_ => some k_ ≠ (.slice Ao58 y125.length co58 : Value).ownBlock) _ _ y134 0 false true t138 t141 t144 _ ?side1 ?side2 A1.out).mono ?_); (case side1 => exact Kd.R_V (Kd.R_tight rfl (Kd.R_apart' (HO127.out) (Kd.N_typed HO136.out) (by decide)))); (case side2 => exact Kd.N_V (HO136.out)); rintro e w60 ⟨v139, v142, v145, rfl, ho0, ho1, ho2, hb⟩; refine ⟨_, rfl, ?_⟩; have n0_ := am (Kd.R_below (by (with_reducible repeat (first | apply rA | apply rN | apply rD)); exact HO127.out) hb); have n1_ := am (Kd.N_below (by (with_reducible repeat (first | apply nA | apply nN | apply nD)); exact HO136.out) hb); have n2_ := am (Kd.V_lower (Kd.V_mono (ok' := fun k_ => True) ho0 (fun k_ hk_ => trivial)) (below_size (by repeat (with_reducible first | exact HB.out | apply bA | apply bN | apply bD)))); have n3_ := am (Kd.V_lower (Kd.V_mono (ok' := fun k_ => True) ho1 (fun k_ hk_ => trivial)) (below_size (by repeat (with_reducible first | exact HB.out | apply bA | apply bN | apply bD)))); have n4_ := am (Kd.V_lower (Kd.V_mono (ok' := fun k_ => True) ho2 (fun k_ hk_ => trivial)) (below_size (by repeat (with_reducible first | exact HB.out | apply bA | apply bN | apply bD)))); have n5_ := am (below_step (by repeat (with_reducible first | exact HB.out | apply bA | apply bN | apply bD)) hb); clear HO127; clear HO136; clear HB; have HO127 := n0_; have HO136 := n1_; have HO140 := n2_; have HO143 := n3_; have HO146 := n4_; have HB := n5_; clear n0_ n1_ n2_ n3_ n4_ n5_; (try clear hb); (try clear hb2); (try clear hk); (try clear hi); (try clear ho0); (try clear ho1); (try clear ho2)) | ((with_reducible refine gate_dst (N := 1) rfl ?_); (try (refine gate_guard (by rfl) ?_; dsimp only)); refine box_event ?hg (N := 1) ?hd (cs := #[.bool false, .slice none 0 0, .slice none 0 0, .slice none 0 0]) (t := 27) ?hr ?_; (case hd => rfl); (case hg => rfl); (case hr => first | (go_simp; done) | (go_simp; rfl)); intro gb147 hg w61 hbox hb; have n0_ := am (Kd.R_below (by (with_reducible repeat (first | apply rA | apply rN | apply rD)); exact HO127.out) hb); have n1_ := am (Kd.N_below (Kd.N_elderB (by (with_reducible repeat (first | apply nA | apply nN | apply nD)); exact HO136.out) gb147 (Nat.le_of_eq hg.symm)) hb); have n2_ := am (Kd.V_below (Kd.V_elderB (by (with_reducible repeat (first | apply vA | apply vN | apply vD)); exact HO140.out) gb147 (Nat.le_of_eq hg.symm)) hb); have n3_ := am (Kd.V_below (Kd.V_elderB (by (with_reducible repeat (first | apply vA | apply vN | apply vD)); exact HO143.out) gb147 (Nat.le_of_eq hg.symm)) hb); have n4_ := am (Kd.V_below (Kd.V_elderB (by (with_reducible repeat (first | apply vA | apply vN | apply vD)); exact HO146.out) gb147 (Nat.le_of_eq hg.symm)) hb); have n5_ := am (below_step (by repeat (with_reducible first | exact HB.out | apply bA | apply bN | apply bD)) hb); have n6_ := am (hbox); have n7_ := am ((by rw [hg]; exact (below_size (by repeat (with_reducible first | exact HB.out | apply bA | apply bN | apply bD))) : w.heap.size ≤ gb147)); have n8_ := am ((by rw [hg]; exact (below_size (by repeat (with_reducible first | exact HB.out | apply bA | apply bN | apply bD))) : w.heap.size ≤ gb147)); clear HO127; clear HO136; clear HO140; clear HO143; clear HO146; clear HB; have HO127 := n0_; have HO136 := n1_; have HO140 := n2_; have HO143 := n3_; have HO146 := n4_; have HB := n5_; have BK147 := n6_; have GW147 := n7_; have GE147 := n8_; clear n0_ n1_ n2_ n3_ n4_ n5_ n6_ n7_ n8_; clear hb hbox hg; have hcz62_0 : w61.cell? ⟨gb147, 0, none⟩ = some (.bool false) := (blk_cell BK147.out 0).trans rfl; have hcz62_1 : w61.cell? ⟨gb147, 1, none⟩ = some (.slice none 0 0) := (blk_cell BK147.out 1).trans rfl; have hcz62_2 : w61.cell? ⟨gb147, 2, none⟩ = some (.slice none 0 0) := (blk_cell BK147.out 2).trans rfl; have hcz62_3 : w61.cell? ⟨gb147, 3, none⟩ = some (.slice none 0 0) := (blk_cell BK147.out 3).trans rfl; have hfz62_0 := blk_frozen BK147.out 0; have hfz62_1 := blk_frozen BK147.out 1; have hfz62_2 := blk_frozen BK147.out 2; have hfz62_3 := blk_frozen BK147.out 3; obtain ⟨Ao63, co63, eo63⟩ := Kd.V_slice HO140.out; subst eo63; obtain ⟨Ao64, co64, eo64⟩ := Kd.V_slice HO143.out; subst eo64; obtain ⟨Ao65, co65, eo65⟩ := Kd.V_slice HO146.out; subst eo65) | ((with_reducible refine gate_dst (N := 10) rfl ?_); (try (refine gate_guard (by rfl) ?_; dsimp only)); refine Kd.R_lit Kd.string _ 9 ?hg (N := 10) ?hd (xs := ([(⟨#[120]⟩ : ByteArray)] : List ByteArray)) (inner := [.string (⟨#[120]⟩ : ByteArray)]) (ok := fun _ => True) (okp := fun _ => True) ?hr ?hp (fun _ hk => hk) trivial (Below.refl _ _) (Nat.le_refl _) (by simp) ?_; (case hd => rfl); (case hg => rfl); (case hr => first | (go_simp; done) | (go_simp; rfl)); (case hp => exact (Reps.one (show Kd.M Kd.string _ _ _ (⟨#[120]⟩ : ByteArray) [.string (⟨#[120]⟩ : ByteArray)] from rfl) (Reps.none _ _))); intro v149 w66 ho67 hb hg_ hnew_; clear hg_ hnew_; rw [← Ny148.out] at ho67; have n0_ := am (Kd.R_elder' (by (with_reducible repeat (first | apply rA | apply rN | apply rD)); exact (Kd.R_mono (Kd.R_far (p := ⟨gb147, 3, none⟩) (Kd.R_far (p := ⟨gb147, 2, none⟩) (Kd.R_far (p := ⟨gb147, 1, none⟩) (Kd.R_far (p := ⟨gb147, 0, none⟩) (Kd.R_types HO127.out BK147.out (by decide)) (fun _ hk => hk.2) (.bool true)) (fun _ hk => hk.2) (.slice Ao63 t138.length co63)) (fun _ hk => hk.2) (.slice Ao64 t141.length co64)) (fun _ hk => hk.2) (.slice Ao65 t144.length co65)) (fun _ h_ => h_.1))) (Kd.R_base ho67) hb); have n1_ := am (Kd.N_elder' (by (with_reducible repeat (first | apply nA | apply nN | apply nD)); exact (Kd.N_mono (Kd.N_far (p := ⟨gb147, 3, none⟩) (Kd.N_far (p := ⟨gb147, 2, none⟩) (Kd.N_far (p := ⟨gb147, 1, none⟩) (Kd.N_far (p := ⟨gb147, 0, none⟩) (Kd.N_mono HO136.out (fun k_ hk => (⟨hk, hk.2⟩ : _ ∧ k_ ≠ gb147))) (fun _ hk => hk.2) (.bool true)) (fun _ hk => hk.2) (.slice Ao63 t138.length co63)) (fun _ hk => hk.2) (.slice Ao64 t141.length co64)) (fun _ hk => hk.2) (.slice Ao65 t144.length co65)) (fun _ h_ => h_.1))) (Kd.R_base ho67) hb); have n2_ := am (Kd.V_elder' (by (with_reducible repeat (first | apply vA | apply vN | apply vD)); exact (Kd.V_mono (Kd.V_far (p := ⟨gb147, 3, none⟩) (Kd.V_far (p := ⟨gb147, 2, none⟩) (Kd.V_far (p := ⟨gb147, 1, none⟩) (Kd.V_far (p := ⟨gb147, 0, none⟩) (Kd.V_mono HO140.out (fun k_ hk => (⟨hk, hk.2⟩ : _ ∧ k_ ≠ gb147))) (fun _ hk => hk.2) (.bool true)) (fun _ hk => hk.2) (.slice Ao63 t138.length co63)) (fun _ hk => hk.2) (.slice Ao64 t141.length co64)) (fun _ hk => hk.2) (.slice Ao65 t144.length co65)) (fun _ h_ => h_.1))) (Kd.R_base ho67) hb); have n3_ := am (Kd.V_elder' (by (with_reducible repeat (first | apply vA | apply vN | apply vD)); exact (Kd.V_mono (Kd.V_far (p := ⟨gb147, 3, none⟩) (Kd.V_far (p := ⟨gb147, 2, none⟩) (Kd.V_far (p := ⟨gb147, 1, none⟩) (Kd.V_far (p := ⟨gb147, 0, none⟩) (Kd.V_mono HO143.out (fun k_ hk => (⟨hk, hk.2⟩ : _ ∧ k_ ≠ gb147))) (fun _ hk => hk.2) (.bool true)) (fun _ hk => hk.2) (.slice Ao63 t138.length co63)) (fun _ hk => hk.2) (.slice Ao64 t141.length co64)) (fun _ hk => hk.2) (.slice Ao65 t144.length co65)) (fun _ h_ => h_.1))) (Kd.R_base ho67) hb); have n4_ := am (Kd.V_elder' (by (with_reducible repeat (first | apply vA | apply vN | apply vD)); exact (Kd.V_mono (Kd.V_far (p := ⟨gb147, 3, none⟩) (Kd.V_far (p := ⟨gb147, 2, none⟩) (Kd.V_far (p := ⟨gb147, 1, none⟩) (Kd.V_far (p := ⟨gb147, 0, none⟩) (Kd.V_mono HO146.out (fun k_ hk => (⟨hk, hk.2⟩ : _ ∧ k_ ≠ gb147))) (fun _ hk => hk.2) (.bool true)) (fun _ hk => hk.2) (.slice Ao63 t138.length co63)) (fun _ hk => hk.2) (.slice Ao64 t141.length co64)) (fun _ hk => hk.2) (.slice Ao65 t144.length co65)) (fun _ h_ => h_.1))) (Kd.R_base ho67) hb); have n5_ := am (Kd.R_lower (Kd.R_new' ho67 (Kd.R_lt (by (with_reducible repeat (first | apply rA | apply rN | apply rD)); exact (Kd.R_mono (Kd.R_far (p := ⟨gb147, 3, none⟩) (Kd.R_far (p := ⟨gb147, 2, none⟩) (Kd.R_far (p := ⟨gb147, 1, none⟩) (Kd.R_far (p := ⟨gb147, 0, none⟩) (Kd.R_types HO127.out BK147.out (by decide)) (fun _ hk => hk.2) (.bool true)) (fun _ hk => hk.2) (.slice Ao63 t138.length co63)) (fun _ hk => hk.2) (.slice Ao64 t141.length co64)) (fun _ hk => hk.2) (.slice Ao65 t144.length co65)) (fun _ h_ => h_.1))))) (below_size (by repeat (first | (with_reducible first | exact HB.out | apply below_alloc | apply pw_below_drewN | apply below_drew1 | refine below_set ?_ GE147.out) | exact HB.out)))); have n6_ := am (blk_below (g := gb147) (o := .cells #[.bool true, .slice Ao63 t138.length co63, .slice Ao64 t141.length co64, .slice Ao65 t144.length co65] 27 (0, 0)) (by (with_reducible repeat (first | refine blk_drewN ?_ _ | refine blk_drew ?_ | refine blk_alloc ?_ _)); refine blk_put (cs := #[.bool true, .slice Ao63 t138.length co63, .slice Ao64 t141.length co64, .slice none 0 0]) ?_ 3 _ rfl; (with_reducible repeat (first | refine blk_drewN ?_ _ | refine blk_drew ?_ | refine blk_alloc ?_ _)); refine blk_put (cs := #[.bool true, .slice Ao63 t138.length co63, .slice none 0 0, .slice none 0 0]) ?_ 2 _ rfl; (with_reducible repeat (first | refine blk_drewN ?_ _ | refine blk_drew ?_ | refine blk_alloc ?_ _)); refine blk_put (cs := #[.bool true, .slice none 0 0, .slice none 0 0, .slice none 0 0]) ?_ 1 _ rfl; (with_reducible repeat (first | refine blk_drewN ?_ _ | refine blk_drew ?_ | refine blk_alloc ?_ _)); refine blk_put (cs := #[.bool false, .slice none 0 0, .slice none 0 0, .slice none 0 0]) ?_ 0 _ rfl; (with_reducible repeat (first | refine blk_drewN ?_ _ | refine blk_drew ?_ | refine blk_alloc ?_ _)); exact BK147.out) hb); have n7_ := am (below_step (by repeat (first | (with_reducible first | exact HB.out | apply below_alloc | apply pw_below_drewN | apply below_drew1 | refine below_set ?_ GE147.out) | exact HB.out)) hb); clear HO127; clear HO136; clear HO140; clear HO143; clear HO146; clear BK147; clear HB; have HO127 := n0_; have HO136 := n1_; have HO140 := n2_; have HO143 := n3_; have HO146 := n4_; have HO150 := n5_; have BK147 := n6_; have HB := n7_; clear n0_ n1_ n2_ n3_ n4_ n5_ n6_ n7_; clear hb ho67; obtain ⟨Ao68, co68, eo68⟩ := Kd.R_slice HO150.out; subst eo68) | ((with_reducible refine gate_dst (N := 13) rfl ?_); (try (refine gate_guard (by rfl) ?_; dsimp only)); refine Kd.R_lit Kd.string _ 9 ?hg (N := 13) ?hd (xs := ([(⟨#[121]⟩ : ByteArray)] : List ByteArray)) (inner := [.string (⟨#[121]⟩ : ByteArray)]) (ok := fun _ => True) (okp := fun _ => True) ?hr ?hp (fun _ hk => hk) trivial (Below.refl _ _) (Nat.le_refl _) (by simp) ?_; (case hd => rfl); (case hg => rfl); (case hr => first | (go_simp; done) | (go_simp; rfl)); (case hp => exact (Reps.one (show Kd.M Kd.string _ _ _ (⟨#[121]⟩ : ByteArray) [.string (⟨#[121]⟩ : ByteArray)] from rfl) (Reps.none _ _))); intro v152 w69 ho70 hb hg_ hnew_; clear hg_ hnew_; rw [← Ny151.out] at ho70; have n0_ := am (Kd.R_elder' (by (with_reducible repeat (first | apply rA | apply rN | apply rD)); exact HO127.out) (Kd.R_base ho70) hb); have n1_ := am (Kd.N_elder' (by (with_reducible repeat (first | apply nA | apply nN | apply nD)); exact HO136.out) (Kd.R_base ho70) hb); have n2_ := am (Kd.V_elder' (by (with_reducible repeat (first | apply vA | apply vN | apply vD)); exact HO140.out) (Kd.R_base ho70) hb); have n3_ := am (Kd.V_elder' (by (with_reducible repeat (first | apply vA | apply vN | apply vD)); exact HO143.out) (Kd.R_base ho70) hb); have n4_ := am (Kd.V_elder' (by (with_reducible repeat (first | apply vA | apply vN | apply vD)); exact HO146.out) (Kd.R_base ho70) hb); have n5_ := am (Kd.R_elder' (by (with_reducible repeat (first | apply rA | apply rN | apply rD)); exact HO150.out) (Kd.R_base ho70) hb); have n6_ := am (Kd.R_lower (Kd.R_new' (Kd.R_new' ho70 (Kd.R_lt (by (with_reducible repeat (first | apply rA | apply rN | apply rD)); exact HO127.out))) (Kd.R_lt (by (with_reducible repeat (first | apply rA | apply rN | apply rD)); exact HO150.out))) (below_size (by repeat (first | (with_reducible first | exact HB.out | apply below_alloc | apply pw_below_drewN | apply below_drew1 | refine below_set ?_ GE147.out) | exact HB.out)))); have n7_ := am (blk_below (g := gb147) (o := .cells #[.bool true, .slice Ao63 t138.length co63, .slice Ao64 t141.length co64, .slice Ao65 t144.length co65] 27 (0, 0)) (by (with_reducible repeat (first | refine blk_drewN ?_ _ | refine blk_drew ?_ | refine blk_alloc ?_ _)); exact BK147.out) hb); have n8_ := am (below_step (by repeat (first | (with_reducible first | exact HB.out | apply below_alloc | apply pw_below_drewN | apply below_drew1 | refine below_set ?_ GE147.out) | exact HB.out)) hb); clear HO127; clear HO136; clear HO140; clear HO143; clear HO146; clear HO150; clear BK147; clear HB; have HO127 := n0_; have HO136 := n1_; have HO140 := n2_; have HO143 := n3_; have HO146 := n4_; have HO150 := n5_; have HO153 := n6_; have BK147 := n7_; have HB := n8_; clear n0_ n1_ n2_ n3_ n4_ n5_ n6_ n7_ n8_; clear hb ho70; obtain ⟨Ao71, co71, eo71⟩ := Kd.R_slice HO153.out; subst eo71; have hcz72_0 : w69.cell? ⟨gb147, 0, none⟩ = some (.bool true) := (blk_cell BK147.out 0).trans rfl; have hcz72_1 : w69.cell? ⟨gb147, 1, none⟩ = some (.slice Ao63 t138.length co63) := (blk_cell BK147.out 1).trans rfl; have hcz72_2 : w69.cell? ⟨gb147, 2, none⟩ = some (.slice Ao64 t141.length co64) := (blk_cell BK147.out 2).trans rfl; have hcz72_3 : w69.cell? ⟨gb147, 3, none⟩ = some (.slice Ao65 t144.length co65) := (blk_cell BK147.out 3).trans rfl; have hfz72_0 := blk_frozen BK147.out 0; have hfz72_1 := blk_frozen BK147.out 1; have hfz72_2 := blk_frozen BK147.out 2; have hfz72_3 := blk_frozen BK147.out 3) | ((with_reducible refine gate_dst (N := 16) rfl ?_); (try (refine gate_guard (by rfl) ?_; dsimp only)); refine Kd.N_lit k27 _ 27 ?hg (N' := 16) ?hd (xs := ([(⟨false, y148, ([] : List ByteArray), ([] : List (List ByteArray))⟩ : S27), (⟨false, ([] : List ByteArray), ([] : List ByteArray), ([] : List (List ByteArray))⟩ : S27), (⟨false, y151, ([] : List ByteArray), ([] : List (List ByteArray))⟩ : S27), (⟨true, t138, t141, t144⟩ : S27)] : List (S27))) (inner := [.bool false, .slice Ao68 y148.length co68, .slice none 0 0, .slice none 0 0, .bool false, .slice none 0 0, .slice none 0 0, .slice none 0 0, .bool false, .slice Ao71 y151.length co71, .slice none 0 0, .slice none 0 0, .bool true, .slice Ao63 t138.length co63, .slice Ao64 t141.length co64, .slice Ao65 t144.length co65]) (ok := (fun k_ => k_ ≠ gb147)) (okp := (fun k_ => k_ ≠ gb147)) ?hr ?hp (fun _ hk => hk) ((show ∀ k_, w69.heap.size ≤ k_ → (fun k_ => k_ ≠ gb147) k_ from fun k_ hk => Kd.freshB (g := gb147) (o := .cells #[.bool true, .slice Ao63 t138.length co63, .slice Ao64 t141.length co64, .slice Ao65 t144.length co65] 27 (0, 0)) (by (with_reducible repeat (first | refine blk_drewN ?_ _ | refine blk_drew ?_ | refine blk_alloc ?_ _)); exact BK147.out) k_ hk) _ (Nat.le_refl _)) (Below.refl _ _) (Nat.le_refl _) (by simp) ?_; (case hd => rfl); (case hg => rfl); (case hr => first | (go_simp; done) | (go_simp; rfl)); (case hp => exact (Reps.c4 (show Kd.FK k27 _ _ (⟨false, y148, ([] : List ByteArray), ([] : List (List ByteArray))⟩ : S27) [.bool false, .slice Ao68 y148.length co68, .slice none 0 0, .slice none 0 0] from (k27_mkF _ _ (⟨false, y148, ([] : List ByteArray), ([] : List (List ByteArray))⟩ : S27) (Kd.R_reads' (Kd.R_mono (ok' := (fun k_ => k_ ≠ gb147)) (Kd.R_types (HO150.out) BK147.out (by decide)) (fun k_ hk => hk.2))).2.1 (Kd.R_F (Kd.R_mono (ok' := (fun k_ => k_ ≠ gb147)) (Kd.R_types (HO150.out) BK147.out (by decide)) (fun k_ hk => hk.2))) (Nat.le_refl _) (Kd.F_nil _ _ _) (Nat.le_refl _) (Kd.F_nil _ _ _))) (Reps.c4 (show Kd.FK k27 _ _ (⟨false, ([] : List ByteArray), ([] : List ByteArray), ([] : List (List ByteArray))⟩ : S27) [.bool false, .slice none 0 0, .slice none 0 0, .slice none 0 0] from (k27_mkF _ _ (⟨false, ([] : List ByteArray), ([] : List ByteArray), ([] : List (List ByteArray))⟩ : S27) (Nat.le_refl _) (Kd.F_nil _ _ _) (Nat.le_refl _) (Kd.F_nil _ _ _) (Nat.le_refl _) (Kd.F_nil _ _ _))) (Reps.c4 (show Kd.FK k27 _ _ (⟨false, y151, ([] : List ByteArray), ([] : List (List ByteArray))⟩ : S27) [.bool false, .slice Ao71 y151.length co71, .slice none 0 0, .slice none 0 0] from (k27_mkF _ _ (⟨false, y151, ([] : List ByteArray), ([] : List (List ByteArray))⟩ : S27) (Kd.R_reads' (Kd.R_mono (ok' := (fun k_ => k_ ≠ gb147)) (Kd.R_types (HO153.out) BK147.out (by decide)) (fun k_ hk => hk.2))).2.1 (Kd.R_F (Kd.R_mono (ok' := (fun k_ => k_ ≠ gb147)) (Kd.R_types (HO153.out) BK147.out (by decide)) (fun k_ hk => hk.2))) (Nat.le_refl _) (Kd.F_nil _ _ _) (Nat.le_refl _) (Kd.F_nil _ _ _))) (Reps.c4 (show Kd.FK k27 _ _ (⟨true, t138, t141, t144⟩ : S27) [.bool true, .slice Ao63 t138.length co63, .slice Ao64 t141.length co64, .slice Ao65 t144.length co65] from (k27_mkF _ _ (⟨true, t138, t141, t144⟩ : S27) (Kd.V_reads' (Kd.V_mono (ok' := (fun k_ => k_ ≠ gb147)) (HO140.out) (fun k_ hk => hk.1.1.2))).2.1 (Kd.V_F (Kd.V_mono (ok' := (fun k_ => k_ ≠ gb147)) (HO140.out) (fun k_ hk => hk.1.1.2))) (Kd.V_reads' (Kd.V_mono (ok' := (fun k_ => k_ ≠ gb147)) (HO143.out) (fun k_ hk => hk.1.1.2))).2.1 (Kd.V_F (Kd.V_mono (ok' := (fun k_ => k_ ≠ gb147)) (HO143.out) (fun k_ hk => hk.1.1.2))) (Kd.V_reads' (Kd.V_mono (ok' := (fun k_ => k_ ≠ gb147)) (HO146.out) (fun k_ hk => hk.1.1.2))).2.1 (Kd.V_F (Kd.V_mono (ok' := (fun k_ => k_ ≠ gb147)) (HO146.out) (fun k_ hk => hk.1.1.2))))) (Reps.none _ _)))))); intro v155 w73 ho74 hb hg_ hnew_; clear hg_ hnew_; rw [← Ny154.out] at ho74; have n0_ := am (Kd.R_below (by (with_reducible repeat (first | apply rA | apply rN | apply rD)); exact HO127.out) hb); have n1_ := am (Kd.N_elder' (by (with_reducible repeat (first | apply nA | apply nN | apply nD)); exact HO136.out) (Kd.N_base ho74) hb); have n2_ := am (Kd.V_elder' (by (with_reducible repeat (first | apply vA | apply vN | apply vD)); exact HO140.out) (Kd.N_base ho74) hb); have n3_ := am (Kd.V_elder' (by (with_reducible repeat (first | apply vA | apply vN | apply vD)); exact HO143.out) (Kd.N_base ho74) hb); have n4_ := am (Kd.V_elder' (by (with_reducible repeat (first | apply vA | apply vN | apply vD)); exact HO146.out) (Kd.N_base ho74) hb); have n5_ := am (Kd.N_lower ho74 (below_size (by repeat (first | (with_reducible first | exact HB.out | apply below_alloc | apply pw_below_drewN | apply below_drew1 | refine below_set ?_ GE147.out) | exact HB.out)))); have n6_ := am (blk_below (g := gb147) (o := .cells #[.bool true, .slice Ao63 t138.length co63, .slice Ao64 t141.length co64, .slice Ao65 t144.length co65] 27 (0, 0)) (by (with_reducible repeat (first | refine blk_drewN ?_ _ | refine blk_drew ?_ | refine blk_alloc ?_ _)); exact BK147.out) hb); have n7_ := am (below_step (by repeat (first | (with_reducible first | exact HB.out | apply below_alloc | apply pw_below_drewN | apply below_drew1 | refine below_set ?_ GE147.out) | exact HB.out)) hb); clear HO127; clear HO136; clear HO140; clear HO143; clear HO146; clear BK147; clear HB; clear HO150; clear HO153; have HO127 := n0_; have HO136 := n1_; have HO140 := n2_; have HO143 := n3_; have HO146 := n4_; have HO156 := n5_; have BK147 := n6_; have HB := n7_; clear n0_ n1_ n2_ n3_ n4_ n5_ n6_ n7_; clear hb ho74; obtain ⟨Ao75, co75, eo75⟩ := Kd.N_slice HO156.out; subst eo75) | ((with_reducible refine gate_callee (f := 40) rfl ?_); refine goesL_ (some 17) rfl rfl Try.func40 (by kernel_rfl) rfl #[.slice Ao75 y154.length co75] rfl (by (try simp only [List.map_toArray, List.map_cons, List.map_nil]); first | done | rfl | (simp only [List.length_drop, List.length_take]; rfl)) ?_; (with_reducible refine (pick_Normal.calls k (fun k_ => k_ ≠ gb147) _ _ y154 t157 _ ?side1 A2.out).mono ?_); (case side1 => exact Kd.N_V (HO156.out)); rintro e w76 ⟨v158, rfl, ho0, hb⟩; refine ⟨_, rfl, ?_⟩; have n0_ := am (Kd.R_below (by (with_reducible repeat (first | apply rA | apply rN | apply rD)); exact HO127.out) hb); have n1_ := am (Kd.N_elder' (by (with_reducible repeat (first | apply nA | apply nN | apply nD)); exact HO136.out) (Kd.N_base ho0) hb); have n2_ := am (Kd.V_elder' (by (with_reducible repeat (first | apply vA | apply vN | apply vD)); exact HO140.out) (Kd.N_base ho0) hb); have n3_ := am (Kd.V_elder' (by (with_reducible repeat (first | apply vA | apply vN | apply vD)); exact HO143.out) (Kd.N_base ho0) hb); have n4_ := am (Kd.V_elder' (by (with_reducible repeat (first | apply vA | apply vN | apply vD)); exact HO146.out) (Kd.N_base ho0) hb); have n5_ := am (Kd.N_elder' (by (with_reducible repeat (first | apply nA | apply nN | apply nD)); exact HO156.out) (Kd.N_base ho0) hb); have n6_ := am (Kd.N_lower (Kd.N_mono (ok' := fun k_ => k_ ≠ gb147) ho0 (fun k_ hk_ => Or.elim hk_ (fun hs_ => hs_) (fun hn_ => (Kd.freshB (g := gb147) (o := .cells #[.bool true, .slice Ao63 t138.length co63, .slice Ao64 t141.length co64, .slice Ao65 t144.length co65] 27 (0, 0)) (by (with_reducible repeat (first | refine blk_drewN ?_ _ | refine blk_drew ?_ | refine blk_alloc ?_ _)); exact BK147.out) k_ hn_)))) (below_size (by repeat (first | (with_reducible first | exact HB.out | apply below_alloc | apply pw_below_drewN | apply below_drew1 | refine below_set ?_ GE147.out) | exact HB.out)))); have n7_ := am (blk_below (g := gb147) (o := .cells #[.bool true, .slice Ao63 t138.length co63, .slice Ao64 t141.length co64, .slice Ao65 t144.length co65] 27 (0, 0)) (by (with_reducible repeat (first | refine blk_drewN ?_ _ | refine blk_drew ?_ | refine blk_alloc ?_ _)); exact BK147.out) hb); have n8_ := am (below_step (by repeat (first | (with_reducible first | exact HB.out | apply below_alloc | apply pw_below_drewN | apply below_drew1 | refine below_set ?_ GE147.out) | exact HB.out)) hb); clear HO127; clear HO136; clear HO140; clear HO143; clear HO146; clear HO156; clear BK147; clear HB; have HO127 := n0_; have HO136 := n1_; have HO140 := n2_; have HO143 := n3_; have HO146 := n4_; have HO156 := n5_; have HO159 := n6_; have BK147 := n7_; have HB := n8_; clear n0_ n1_ n2_ n3_ n4_ n5_ n6_ n7_ n8_; (try clear hb); (try clear hb2); (try clear hk); (try clear hi); (try clear ho0); obtain ⟨Ao77, co77, eo77⟩ := Kd.N_slice HO159.out; subst eo77) | ((with_reducible refine gate_callee (f := 44) rfl ?_); refine goesL_ (some 19) rfl rfl Try.func44 (by kernel_rfl) rfl #[.slice Ao77 t157.length co77, .int .i64 2] rfl (by (try simp only [List.map_toArray, List.map_cons, List.map_nil]); first | done | rfl | (simp only [List.length_drop, List.length_take]; rfl)) ?_; (with_reducible refine (pick_Choose.calls k _ _ t157 2 t160 _ ?side1 ?side2 A3.out).mono ?_); (case side1 => repeat (first | exact (Kd.N_reads' HO159.out).2.2 | (with_reducible refine Kd.C_alloc ?_ _) | (with_reducible refine Kd.C_drewN ?_ _) | (with_reducible refine Kd.C_drew ?_))); (case side2 => exact (Kd.N_reads' HO159.out).2.1); rintro e w78 ⟨v161, rfl, ho0, hb⟩; refine ⟨_, rfl, ?_⟩; have n0_ := am (Kd.R_elder' (by (with_reducible repeat (first | apply rA | apply rN | apply rD)); exact HO127.out) (Kd.R_base ho0) hb); have n1_ := am (Kd.N_elder' (by (with_reducible repeat (first | apply nA | apply nN | apply nD)); exact HO136.out) (Kd.R_base ho0) hb); have n2_ := am (Kd.V_elder' (by (with_reducible repeat (first | apply vA | apply vN | apply vD)); exact HO140.out) (Kd.R_base ho0) hb); have n3_ := am (Kd.V_elder' (by (with_reducible repeat (first | apply vA | apply vN | apply vD)); exact HO143.out) (Kd.R_base ho0) hb); have n4_ := am (Kd.V_elder' (by (with_reducible repeat (first | apply vA | apply vN | apply vD)); exact HO146.out) (Kd.R_base ho0) hb); have n5_ := am (Kd.N_elder' (by (with_reducible repeat (first | apply nA | apply nN | apply nD)); exact HO156.out) (Kd.R_base ho0) hb); have n6_ := am (Kd.N_elder' (by (with_reducible repeat (first | apply nA | apply nN | apply nD)); exact HO159.out) (Kd.R_base ho0) hb); have n7_ := am (Kd.R_lower (Kd.R_new' ho0 (Kd.R_lt (by (with_reducible repeat (first | apply rA | apply rN | apply rD)); exact HO127.out))) (below_size (by repeat (first | (with_reducible first | exact HB.out | apply below_alloc | apply pw_below_drewN | apply below_drew1 | refine below_set ?_ GE147.out) | exact HB.out)))); have n8_ := am (blk_below (g := gb147) (o := .cells #[.bool true, .slice Ao63 t138.length co63, .slice Ao64 t141.length co64, .slice Ao65 t144.length co65] 27 (0, 0)) (by (with_reducible repeat (first | refine blk_drewN ?_ _ | refine blk_drew ?_ | refine blk_alloc ?_ _)); exact BK147.out) hb); have n9_ := am (below_step (by repeat (first | (with_reducible first | exact HB.out | apply below_alloc | apply pw_below_drewN | apply below_drew1 | refine below_set ?_ GE147.out) | exact HB.out)) hb); clear HO127; clear HO136; clear HO140; clear HO143; clear HO146; clear HO156; clear HO159; clear BK147; clear HB; have HO127 := n0_; have HO136 := n1_; have HO140 := n2_; have HO143 := n3_; have HO146 := n4_; have HO156 := n5_; have HO159 := n6_; have HO162 := n7_; have BK147 := n8_; have HB := n9_; clear n0_ n1_ n2_ n3_ n4_ n5_ n6_ n7_ n8_ n9_; (try clear hb); (try clear hb2); (try clear hk); (try clear hi); (try clear ho0); have hcz79_0 : w78.cell? ⟨gb147, 0, none⟩ = some (.bool true) := (blk_cell BK147.out 0).trans rfl; have hcz79_1 : w78.cell? ⟨gb147, 1, none⟩ = some (.slice Ao63 t138.length co63) := (blk_cell BK147.out 1).trans rfl; have hcz79_2 : w78.cell? ⟨gb147, 2, none⟩ = some (.slice Ao64 t141.length co64) := (blk_cell BK147.out 2).trans rfl; have hcz79_3 : w78.cell? ⟨gb147, 3, none⟩ = some (.slice Ao65 t144.length co65) := (blk_cell BK147.out 3).trans rfl; have hfz79_0 := blk_frozen BK147.out 0; have hfz79_1 := blk_frozen BK147.out 1; have hfz79_2 := blk_frozen BK147.out 2; have hfz79_3 := blk_frozen BK147.out 3; have p163 : 0 ≤ (0 : Int) := (by omega); have q163 : 0 < (t157.length : Int) := of_decide_eq_true (by first | (with_reducible assumption) | assumption); obtain ⟨ad163, A163_1, c163_1, A163_2, c163_2, A163_3, c163_3, e163, hx163_0, hx163_1, hx163_2, hx163_3, hl163_1, hi163_1, hl163_2, hi163_2, hl163_3, hi163_3⟩ := at_T27 (Kd.N_reads' HO159.out).2.2 0 p163 q163; cases e163; obtain ⟨ce163, hce163, hMe163, hcc163⟩ := Kd.N_get HO159.out z27 0 p163 (by first | exact q163 | exact of_decide_eq_true (by first | (with_reducible assumption) | assumption) | (have e_ := (Kd.N_reads' HO159.out).1; omega)); obtain ⟨ua163_1, uc163_1, ua163_2, uc163_2, ua163_3, uc163_3, rfl, ul163_1, ge163_1, ul163_2, ge163_2, ul163_3, ge163_3⟩ := k27_openF hMe163; have hv163_1 := hcc163 1 _ rfl; rw [add_field _ _ 1 (by omega)] at hv163_1; replace hv163_1 := Option.some.inj (hv163_1.symm.trans hx163_1); injection hv163_1 with hva_ hvn_ hvc_; rw [hva_] at ge163_1; rw [hvc_] at ul163_1; have HL163_1 := am (show Kd.V Kd.string 9 _ w.heap.size _ _ ((rd_T27 t157 0).f1) from Kd.V_mk ul163_1 ge163_1); clear hva_ hvn_ hvc_ ge163_1 ul163_1; have hv163_2 := hcc163 2 _ rfl; rw [add_field _ _ 2 (by omega)] at hv163_2; replace hv163_2 := Option.some.inj (hv163_2.symm.trans hx163_2); injection hv163_2 with hva_ hvn_ hvc_; rw [hva_] at ge163_2; rw [hvc_] at ul163_2; have HL163_2 := am (show Kd.V Kd.string 9 _ w.heap.size _ _ ((rd_T27 t157 0).f2) from Kd.V_mk ul163_2 ge163_2); clear hva_ hvn_ hvc_ ge163_2 ul163_2; have hv163_3 := hcc163 3 _ rfl; rw [add_field _ _ 3 (by omega)] at hv163_3; replace hv163_3 := Option.some.inj (hv163_3.symm.trans hx163_3); injection hv163_3 with hva_ hvn_ hvc_; rw [hva_] at ge163_3; rw [hvc_] at ul163_3; have HL163_3 := am (show Kd.V (Kd.slice 9 Kd.string) 22 _ w.heap.size _ _ ((rd_T27 t157 0).f3) from Kd.V_mk ul163_3 ge163_3); clear hva_ hvn_ hvc_ ge163_3 ul163_3; clear hcc163 hce163; have qi163 : (0 < t157.length) = True := eq_true (by omega); (try rw [show ((0 : Int)).toNat = 0 from rfl] at hx163_0); (try rw [show 0 * 4 = 0 from rfl] at hx163_0); (try rw [Addr.add_zero'] at hx163_0); (try rw [show ((0 : Int)).toNat = 0 from rfl] at hx163_1); (try rw [show 0 * 4 = 0 from rfl] at hx163_1); (try rw [Addr.add_zero'] at hx163_1); (try rw [show ((0 : Int)).toNat = 0 from rfl] at hx163_2); (try rw [show 0 * 4 = 0 from rfl] at hx163_2); (try rw [Addr.add_zero'] at hx163_2); (try rw [show ((0 : Int)).toNat = 0 from rfl] at hx163_3); (try rw [show 0 * 4 = 0 from rfl] at hx163_3); (try rw [Addr.add_zero'] at hx163_3); have HR163_1 := am hi163_1; have HC163_1 := am hl163_1; clear hi163_1 hl163_1; have HR163_2 := am hi163_2; have HC163_2 := am hl163_2; clear hi163_2 hl163_2; have HR163_3 := am hi163_3; have HC163_3 := am hl163_3; clear hi163_3 hl163_3; replace p163 := eq_true p163; replace q163 := eq_true q163) | (go_at_call 43; (with_reducible refine (pick_Clean.calls k _ _ t157 false _ ?side1 ?side2 A9.out).mono ?_); (case side1 => repeat (first | exact (Kd.N_reads' HO159.out).2.2 | (with_reducible refine Kd.C_alloc ?_ _) | (with_reducible refine Kd.C_drewN ?_ _) | (with_reducible refine Kd.C_drew ?_))); (case side2 => exact (Kd.N_reads' HO159.out).2.1); rintro e w80 ⟨rfl, hb⟩; have n0_ := am (Kd.R_below (by (with_reducible repeat (first | apply rA | apply rN | apply rD)); exact HO127.out) hb); have n1_ := am (Kd.N_below (by (with_reducible repeat (first | apply nA | apply nN | apply nD)); exact HO136.out) hb); have n2_ := am (Kd.V_below (by (with_reducible repeat (first | apply vA | apply vN | apply vD)); exact HO140.out) hb); have n3_ := am (Kd.V_below (by (with_reducible repeat (first | apply vA | apply vN | apply vD)); exact HO143.out) hb); have n4_ := am (Kd.V_below (by (with_reducible repeat (first | apply vA | apply vN | apply vD)); exact HO146.out) hb); have n5_ := am (Kd.N_below (by (with_reducible repeat (first | apply nA | apply nN | apply nD)); exact HO156.out) hb); have n6_ := am (Kd.N_below (by (with_reducible repeat (first | apply nA | apply nN | apply nD)); exact HO159.out) hb); have n7_ := am (Kd.R_below (by (with_reducible repeat (first | apply rA | apply rN | apply rD)); exact HO162.out) hb); have n8_ := am (Kd.V_below (by (with_reducible repeat (first | apply vA | apply vN | apply vD)); exact HL163_1.out) hb); have n9_ := am (Kd.V_below (by (with_reducible repeat (first | apply vA | apply vN | apply vD)); exact HL163_2.out) hb); have n10_ := am (Kd.V_below (by (with_reducible repeat (first | apply vA | apply vN | apply vD)); exact HL163_3.out) hb); have n11_ := am (blk_below (g := gb147) (o := .cells #[.bool true, .slice Ao63 t138.length co63, .slice Ao64 t141.length co64, .slice Ao65 t144.length co65] 27 (0, 0)) (by (with_reducible repeat (first | refine blk_drewN ?_ _ | refine blk_drew ?_ | refine blk_alloc ?_ _)); exact BK147.out) hb); have n12_ := am (Kd.C_below (by repeat (first | (with_reducible exact HR163_1.out) | (with_reducible refine Kd.C_alloc ?_ _) | (with_reducible refine Kd.C_drewN ?_ _) | (with_reducible refine Kd.C_drew ?_) | exact HR163_1.out)) hb); have n13_ := am (Kd.C_below (by repeat (first | (with_reducible exact HR163_2.out) | (with_reducible refine Kd.C_alloc ?_ _) | (with_reducible refine Kd.C_drewN ?_ _) | (with_reducible refine Kd.C_drew ?_) | exact HR163_2.out)) hb); have n14_ := am (Kd.C_below (by repeat (first | (with_reducible exact HR163_3.out) | (with_reducible refine Kd.C_alloc ?_ _) | (with_reducible refine Kd.C_drewN ?_ _) | (with_reducible refine Kd.C_drew ?_) | exact HR163_3.out)) hb); have n15_ := am (below_step (by repeat (first | (with_reducible first | exact HB.out | apply below_alloc | apply pw_below_drewN | apply below_drew1 | refine below_set ?_ GE147.out) | exact HB.out)) hb); clear HO127; clear HO136; clear HO140; clear HO143; clear HO146; clear HO156; clear HO159; clear HO162; clear HL163_1; clear HL163_2; clear HL163_3; clear BK147; clear HR163_1; clear HR163_2; clear HR163_3; clear HB; have HO127 := n0_; have HO136 := n1_; have HO140 := n2_; have HO143 := n3_; have HO146 := n4_; have HO156 := n5_; have HO159 := n6_; have HO162 := n7_; have HL163_1 := n8_; have HL163_2 := n9_; have HL163_3 := n10_; have BK147 := n11_; have HR163_1 := n12_; have HR163_2 := n13_; have HR163_3 := n14_; have HB := n15_; clear n0_ n1_ n2_ n3_ n4_ n5_ n6_ n7_ n8_ n9_ n10_ n11_ n12_ n13_ n14_ n15_; (try clear hb); (try clear hb2); (try clear hk); (try clear hi); obtain ⟨Ao81, co81, eo81⟩ := Kd.R_slice HO162.out; subst eo81; have p165 : 0 ≤ (2 : Int) := (by omega); have q165 : 2 < (t160.length : Int) := of_decide_eq_true (by first | (with_reducible assumption) | assumption); obtain ⟨ad165, e165, hx165_0⟩ := Kd.at_string (Kd.R_reads' HO162.out).2.2 2 p165 q165; cases e165; (try simp only [show (2 : Int).toNat = 2 from rfl, Nat.reduceMul, Nat.reduceEqDiff, Go.Addr.add, ↓reduceIte] at hx165_0); have qi165 : (2 < t160.length) = True := eq_true (by omega); (try rw [show ((2 : Int)).toNat = 2 from rfl] at hx165_0); replace p165 := eq_true p165; replace q165 := eq_true q165) | (go_at_call 33; (with_reducible refine (pick_Same.calls k _ _ t157 _ _ t157 t166 _ ?side1 ?side2 ?side3 ?side4 A47.out).mono ?_); (case side1 => repeat (first | exact (Kd.N_reads' HO159.out).2.2 | (with_reducible refine Kd.C_alloc ?_ _) | (with_reducible refine Kd.C_drewN ?_ _) | (with_reducible refine Kd.C_drew ?_))); (case side2 => exact (Kd.N_reads' HO159.out).2.1); (case side3 => repeat (first | exact (Kd.N_reads' HO159.out).2.2 | (with_reducible refine Kd.C_alloc ?_ _) | (with_reducible refine Kd.C_drewN ?_ _) | (with_reducible refine Kd.C_drew ?_))); (case side4 => exact (Kd.N_reads' HO159.out).2.1); rintro e w82 ⟨rfl, hb⟩; have n0_ := am (Kd.R_below (by (with_reducible repeat (first | apply rA | apply rN | apply rD)); exact HO127.out) hb); have n1_ := am (Kd.N_below (by (with_reducible repeat (first | apply nA | apply nN | apply nD)); exact HO136.out) hb); have n2_ := am (Kd.V_below (by (with_reducible repeat (first | apply vA | apply vN | apply vD)); exact HO140.out) hb); have n3_ := am (Kd.V_below (by (with_reducible repeat (first | apply vA | apply vN | apply vD)); exact HO143.out) hb); have n4_ := am (Kd.V_below (by (with_reducible repeat (first | apply vA | apply vN | apply vD)); exact HO146.out) hb); have n5_ := am (Kd.N_below (by (with_reducible repeat (first | apply nA | apply nN | apply nD)); exact HO156.out) hb); have n6_ := am (Kd.N_below (by (with_reducible repeat (first | apply nA | apply nN | apply nD)); exact HO159.out) hb); have n7_ := am (Kd.R_below (by (with_reducible repeat (first | apply rA | apply rN | apply rD)); exact HO162.out) hb); have n8_ := am (Kd.V_below (by (with_reducible repeat (first | apply vA | apply vN | apply vD)); exact HL163_1.out) hb); have n9_ := am (Kd.V_below (by (with_reducible repeat (first | apply vA | apply vN | apply vD)); exact HL163_2.out) hb); have n10_ := am (Kd.V_below (by (with_reducible repeat (first | apply vA | apply vN | apply vD)); exact HL163_3.out) hb); have n11_ := am (blk_below (g := gb147) (o := .cells #[.bool true, .slice Ao63 t138.length co63, .slice Ao64 t141.length co64, .slice Ao65 t144.length co65] 27 (0, 0)) (by (with_reducible repeat (first | refine blk_drewN ?_ _ | refine blk_drew ?_ | refine blk_alloc ?_ _)); exact BK147.out) hb); have n12_ := am (Kd.C_below (by repeat (first | (with_reducible exact HR163_1.out) | (with_reducible refine Kd.C_alloc ?_ _) | (with_reducible refine Kd.C_drewN ?_ _) | (with_reducible refine Kd.C_drew ?_) | exact HR163_1.out)) hb); have n13_ := am (Kd.C_below (by repeat (first | (with_reducible exact HR163_2.out) | (with_reducible refine Kd.C_alloc ?_ _) | (with_reducible refine Kd.C_drewN ?_ _) | (with_reducible refine Kd.C_drew ?_) | exact HR163_2.out)) hb); have n14_ := am (Kd.C_below (by repeat (first | (with_reducible exact HR163_3.out) | (with_reducible refine Kd.C_alloc ?_ _) | (with_reducible refine Kd.C_drewN ?_ _) | (with_reducible refine Kd.C_drew ?_) | exact HR163_3.out)) hb); have n15_ := am (below_step (by repeat (first | (with_reducible first | exact HB.out | apply below_alloc | apply pw_below_drewN | apply below_drew1 | refine below_set ?_ GE147.out) | exact HB.out)) hb); clear HO127; clear HO136; clear HO140; clear HO143; clear HO146; clear HO156; clear HO159; clear HO162; clear HL163_1; clear HL163_2; clear HL163_3; clear BK147; clear HR163_1; clear HR163_2; clear HR163_3; clear HB; have HO127 := n0_; have HO136 := n1_; have HO140 := n2_; have HO143 := n3_; have HO146 := n4_; have HO156 := n5_; have HO159 := n6_; have HO162 := n7_; have HL163_1 := n8_; have HL163_2 := n9_; have HL163_3 := n10_; have BK147 := n11_; have HR163_1 := n12_; have HR163_2 := n13_; have HR163_3 := n14_; have HB := n15_; clear n0_ n1_ n2_ n3_ n4_ n5_ n6_ n7_ n8_ n9_ n10_ n11_ n12_ n13_ n14_ n15_; (try clear hb); (try clear hb2); (try clear hk); (try clear hi)))
                    go_ret
                    exact ⟨by first | rfl | (simp [errW_none, errW_some] <;> rfl) | (simp [*, errW_none, errW_some] <;> rfl), by repeat (first | (with_reducible first | exact HB.out | apply below_alloc | apply pw_below_drewN | apply below_drew1 | refine below_set ?_ GE147.out) | exact HB.out)⟩
                  · rw [if_neg c46] at H
                    have c46b0 : ((rdOf ByteArray.empty t160 2).toList == ([99] : List UInt8)) = false := beq_eq_false_iff_ne.mpr c46
                    have c46b1 : ((rdOf ByteArray.empty t160 2).toList != ([99] : List UInt8)) = true := bne_iff_ne.mpr c46
                    exact absurd H (by simp)
                · rw [if_neg c45] at H
                  exact absurd H (by simp)
              · rw [if_neg c44] at H
                have c44b0 : ((t160.length : Int) == 3) = false := beq_eq_false_iff_ne.mpr c44
                have c44b1 : ((t160.length : Int) != 3) = true := bne_iff_ne.mpr c44
                exact absurd H (by simp)
          · rw [if_neg c8] at H
            have c8b0 : ((((rd_T27 t157 0).f1).length : Int) == 2) = false := beq_eq_false_iff_ne.mpr c8
            have c8b1 : ((((rd_T27 t157 0).f1).length : Int) != 2) = true := bne_iff_ne.mpr c8
            exact absurd H (by simp)
        · rw [if_neg c7] at H
          exact absurd H (by simp)
      · rw [if_neg c6] at H
        have c6b0 : ((t157.length : Int) == 2) = false := beq_eq_false_iff_ne.mpr c6
        have c6b1 : ((t157.length : Int) != 2) = true := bne_iff_ne.mpr c6
        exact absurd H (by simp)
    · rw [if_neg c5] at H
      have c5b0 : ((t144.length : Int) == 2) = false := beq_eq_false_iff_ne.mpr c5
      have c5b1 : ((t144.length : Int) != 2) = true := bne_iff_ne.mpr c5
      exact absurd H (by simp)
  · replace c4 := Bool.eq_false_iff.mpr c4
    subst c4
    have H1 : (none) = some r := by rw [if_neg (show ¬ (false = true) by decide)] at H; exact H
    clear H
    have H := H1
    clear H1
    exact absurd H (by simp)

end Go.Proofs.Ytiaoppikdgoieaa.M
namespace Go.Proofs.Ytiaoppikdgoieaa.M
open Go.RowKit Go.Proofs Go.Proofs.YtiaoppikdgoieaaW.PrintWords Go.Proofs.YtiaoppikdgoieaaW.PrintLast Go.Proofs.YtiaoppikdgoieaaW.PrintMore Go.Proofs.Ytiaoppikdgoieaa.Hand
attribute [local go_sem] Oper.semAt_some
set_option linter.unusedVariables false
set_option linter.unusedSimpArgs false

theorem rsame_c (a b : List ByteArray) (A0 : Option Addr) (c0 : Nat) (A1 : Option Addr) (c1 : Nat) (w : World) (hr0 : Kd.C Kd.string w A0 a.length a) (hc0 : a.length ≤ c0) (hr1 : Kd.C Kd.string w A1 b.length b) (hc1 : b.length ≤ c1) :
    Calls Try.prog 24 #[.slice A0 a.length c0, .slice A1 b.length c1] w fun e w' => e = .returned (.bool (decide (a = b))) ∧ Drawn0 w w' :=
  sennitref01_Same.calls (a.length + 1) _ _ a _ _ b _ _ hr0 hc0 hr1 hc1 (Pure.same_f a b hr0.2.1 (a.length + 1) (by omega))
theorem rall_c (a b : List (List ByteArray)) (A0 : Option Addr) (c0 : Nat) (A1 : Option Addr) (c1 : Nat) (w : World) (hr0 : Kd.C (Kd.slice 9 Kd.string) w A0 a.length a) (hc0 : a.length ≤ c0) (hr1 : Kd.C (Kd.slice 9 Kd.string) w A1 b.length b) (hc1 : b.length ≤ c1) (hs : a.length ≤ 900 ∧ ∀ x ∈ a, x.length < 900) :
    Calls Try.prog 28 #[.slice A0 a.length c0, .slice A1 b.length c1] w fun e w' => e = .returned (.bool (decide (a = b))) ∧ Drawn0 w w' :=
  sennitref06_All.calls (a.length + 1000) _ _ a _ _ b _ _ hr0 hc0 hr1 hc1 (Pure.all_f a b 900 hs.2 (by omega) (by omega) (a.length + 1000) (by omega))

def okS (l : List S27) : Prop := l.length ≤ 1000000 ∧ ∀ p ∈ l, p.f3.length ≤ 900 ∧ ∀ x ∈ p.f3, x.length < 900
instance (l : List S27) : Decidable (okS l) := inferInstanceAs (Decidable (_ ∧ _))
set_option maxHeartbeats 8000000 in
set_option maxRecDepth 100000 in
theorem rsame34_c (w : World) (A0 : Option Addr) (c0 : Nat) (l0 : List S27) (A1 : Option Addr) (c1 : Nat) (l1 : List S27) (hr0 : Kd.C k27 w A0 l0.length l0) (hc0 : l0.length ≤ c0) (hr1 : Kd.C k27 w A1 l1.length l1) (hc1 : l1.length ≤ c1) (hok : okS l0) :
    Calls Try.prog 34 #[.slice A0 l0.length c0, .slice A1 l1.length c1] w fun e w' => e = .returned (.bool (sameG l0 l1)) ∧ Drawn0 w w' := by
  have HR0 := Aside0.mk hr0
  have HR1 := Aside0.mk hr1
  have HLE := Aside0.mk hok.1
  have HOK := Aside0.mk hok.2
  clear hr0 hc0 hr1 hc1 hok
  have HG : Aside0 (sameG l0 l1 = (decide (l0.length = l1.length) && (List.zipWith sameP l0 l1).all id)) := ⟨rfl⟩
  rw [HG.out]
  by_cases hlen : l0.length = l1.length
  · have HN := Aside0.mk hlen
    have e1 : ((l0.length : Int) != (l1.length : Int)) = false := by rw [hlen]; simp
    have e2 : (l0.length != l1.length) = false := by rw [hlen]; simp
    clear hlen
    rw [decide_eq_true HN.out, Bool.true_and]
    go_enter Try.func34, Try.ntmps34
    go_wp2
    go_loopg [5] l0.length (fun kq v5 w' => ∃ i : Nat, v5 = .int .i64 (i : Int) ∧ Aside0 (i ≤ l0.length ∧ kq = l0.length - i) ∧ Aside0 ((List.zipWith sameP (l0.take i) (l1.take i)).all id = true) ∧ Drawn0 w w')
    case atStart => exact ⟨0, rfl, ⟨Nat.zero_le _, rfl⟩, ⟨by simp⟩, Drawn0.refl _⟩
    case round =>
      obtain ⟨i, rfl, HI, HA, ⟨m1, rfl⟩⟩ := hrel
      by_cases c4 : i < l0.length
      · have c4b0 : decide ((i : Int) < (l0.length : Int)) = true := decide_eq_true (by omega)
        have c4b1 : decide (i < l0.length) = true := decide_eq_true c4
        have c5 : i < l1.length := by have := HN.out; omega
        have c5b1 : decide (i < l1.length) = true := decide_eq_true c5
        obtain ⟨z, g0⟩ : ∃ z, l0[i]? = some z := ⟨_, List.getElem?_eq_getElem c4⟩
        obtain ⟨y, g1⟩ : ∃ y, l1[i]? = some y := ⟨_, List.getElem?_eq_getElem c5⟩
        obtain ⟨ad, a1, m1', a2, m2, a3, m3, rfl, hx0, hx1, hx2, hx3, hl1, hi1, hl2, hi2, hl3, hi3⟩ := C_piece HR0.out i z g0
        obtain ⟨ae, b1, n1, b2, n2, b3, n3, rfl, hy0, hy1, hy2, hy3, gl1, gi1, gl2, gi2, gl3, gi3⟩ := C_piece HR1.out i y g1
        have HSN : Aside0 ((List.zipWith sameP (l0.take (i + 1)) (l1.take (i + 1))).all id = sameP z y) := ⟨by
          rw [take_snoc l0 i z g0, take_snoc l1 i y g1, List.zipWith_append (by simp; omega)]
          have := HA.out
          simp [this]⟩
        have HIN : Aside0 (sameP z y = false → (List.zipWith sameP l0 l1).all id = false) := ⟨fun e => by
          cases hq : (List.zipWith sameP l0 l1).all id with
          | false => rfl
          | true =>
            have := List.all_eq_true.1 hq (sameP z y) (by
              refine List.mem_of_getElem? (i := i) ?_
              rw [List.getElem?_zipWith, g0, g1])
            rw [e] at this
            exact absurd this (by decide)⟩
        have HZ := Aside0.mk (HOK.out z (List.mem_of_getElem? g0))
        have T1 := Aside0.mk hi1
        have T2 := Aside0.mk hi2
        have T3 := Aside0.mk hi3
        have U1 := Aside0.mk gi1
        have U2 := Aside0.mk gi2
        have U3 := Aside0.mk gi3
        have LL := Aside0.mk (And.intro hl1 (And.intro hl2 (And.intro hl3 (And.intro gl1 (And.intro gl2 gl3)))))
        clear hi1 hi2 hi3 gi1 gi2 gi3 g0 g1 hl1 hl2 hl3 gl1 gl2 gl3
        have key : Aside0 (sameP z y = (decide (z.f0 = y.f0) && (decide (z.f1 = y.f1) && (decide (z.f2 = y.f2) && decide (z.f3 = y.f3))))) := ⟨rfl⟩
        obtain ⟨s3, h3⟩ : ∃ s3, s3 = decide (z.f3 = y.f3) := ⟨_, rfl⟩
        obtain ⟨s1, h1⟩ : ∃ s1, s1 = decide (z.f1 = y.f1) := ⟨_, rfl⟩
        obtain ⟨s2, h2⟩ : ∃ s2, s2 = decide (z.f2 = y.f2) := ⟨_, rfl⟩
        obtain ⟨p0, hp0⟩ : ∃ p0, p0 = z.f0 := ⟨_, rfl⟩
        obtain ⟨q0, hq0⟩ : ∃ q0, q0 = y.f0 := ⟨_, rfl⟩
        have KEY := Aside0.mk key.out
        rw [← h1, ← h2, ← h3, ← hp0, ← hq0] at KEY
        rw [← hp0] at hx0
        rw [← hq0] at hy0
        have H1 := Aside0.mk h1
        have H2 := Aside0.mk h2
        have H3 := Aside0.mk h3
        clear h1 h2 h3 key hp0 hq0
        cases p0 <;> cases q0 <;> cases s1 <;> cases s2 <;> cases s3
        all_goals
          go_wp2
          repeat (go_quiet (first
            | (go_at_call 24; (with_reducible refine (rsame_c z.f1 y.f1 a1 m1' b1 n1 _ ?sa ?sb ?sc ?sd).mono ?_); (case sa => with_reducible exact Kd.C_drewN T1.out _); (case sb => exact LL.out.1); (case sc => with_reducible exact Kd.C_drewN U1.out _); (case sd => exact LL.out.2.2.2.1); rintro e w' ⟨he, ⟨nd1, rfl⟩⟩; rw [← H1.out] at he; subst he; (try first | exact ⟨rfl, _, World.drewN_drewN _ _ _⟩ | exact ⟨rfl, _, Eq.trans (World.drewN_drewN _ _ _) (congrArg (World.drewN _) (Nat.add_assoc _ _ _))⟩))
            | (go_at_call 24; (with_reducible refine (rsame_c z.f2 y.f2 a2 m2 b2 n2 _ ?sa ?sb ?sc ?sd).mono ?_); (case sa => with_reducible exact Kd.C_drewN T2.out _); (case sb => exact LL.out.2.1); (case sc => with_reducible exact Kd.C_drewN U2.out _); (case sd => exact LL.out.2.2.2.2.1); rintro e w' ⟨he, ⟨nd1, rfl⟩⟩; rw [← H2.out] at he; subst he; (try first | exact ⟨rfl, _, World.drewN_drewN _ _ _⟩ | exact ⟨rfl, _, Eq.trans (World.drewN_drewN _ _ _) (congrArg (World.drewN _) (Nat.add_assoc _ _ _))⟩))
            | (go_at_call 28; (with_reducible refine (rall_c z.f3 y.f3 a3 m3 b3 n3 _ ?sa ?sb ?sc ?sd HZ.out).mono ?_); (case sa => with_reducible exact Kd.C_drewN T3.out _); (case sb => exact LL.out.2.2.1); (case sc => with_reducible exact Kd.C_drewN U3.out _); (case sd => exact LL.out.2.2.2.2.2); rintro e w' ⟨he, ⟨nd1, rfl⟩⟩; rw [← H3.out] at he; subst he; (try first | exact ⟨rfl, _, World.drewN_drewN _ _ _⟩ | exact ⟨rfl, _, Eq.trans (World.drewN_drewN _ _ _) (congrArg (World.drewN _) (Nat.add_assoc _ _ _))⟩))); try go_wp2)
        all_goals first
          | (go_ret; exact ⟨by rw [HIN.out (by rw [KEY.out]; rfl)]; rfl, by repeat (first | exact Drawn0.refl _ | apply Drawn0.step)⟩)
          | (go_roundg (l0.length - (i + 1))
             case measure => have := HI.out; omega
             case rel => exact ⟨i + 1, by have := HI.out; have := HLE.out; first | rfl | (simp; unfold wrap64; omega), ⟨by omega, rfl⟩, ⟨by rw [HSN.out, KEY.out]; rfl⟩, by repeat (first | exact Drawn0.refl _ | apply Drawn0.step)⟩)
      · have c4b0 : decide ((i : Int) < (l0.length : Int)) = false := decide_eq_false (by omega)
        have c4b1 : decide (i < l0.length) = false := decide_eq_false c4
        have HQ : Aside0 ((List.zipWith sameP l0 l1).all id = true) := ⟨by
          have := HA.out
          rwa [List.take_of_length_le (by omega), List.take_of_length_le (by have := HN.out; omega)] at this⟩
        go_wp2
        go_ret
        exact ⟨by rw [HQ.out]; rfl, ⟨⟨_, rfl⟩⟩⟩
  · have HN := Aside0.mk hlen
    have e1 : ((l0.length : Int) != (l1.length : Int)) = true := bne_iff_ne.mpr (by omega)
    have e2 : (l0.length != l1.length) = true := bne_iff_ne.mpr hlen
    clear hlen
    rw [decide_eq_false HN.out, Bool.false_and]
    go_enter Try.func34, Try.ntmps34
    go_wp2
    go_ret
    exact ⟨rfl, Drawn0.refl _⟩
def sennitref07_Same.f (k : Nat) (l0 l1 : List S27) : Option Bool := if okS l0 then some (sameG l0 l1) else none
theorem sennitref07_Same.mono : ∀ a0 a1 k, LeO (sennitref07_Same.f k a0 a1) (sennitref07_Same.f (k + 1) a0 a1) := fun _ _ _ => LeO.refl _
theorem sennitref07_Same.calls (k : Nat) (A0 : Option Addr) (c0 : Nat) (l0 : List S27) (A1 : Option Addr) (c1 : Nat) (l1 : List S27) (r : Bool) (w : World) (hr0 : Kd.C k27 w A0 l0.length l0) (hc0 : l0.length ≤ c0) (hr1 : Kd.C k27 w A1 l1.length l1) (hc1 : l1.length ≤ c1) (h : sennitref07_Same.f k l0 l1 = some r) :
    Calls Try.prog 34 #[.slice A0 l0.length c0, .slice A1 l1.length c1] w fun e w' => e = .returned (.bool r) ∧ Drawn0 w w' := by
  unfold sennitref07_Same.f at h
  split at h
  · next hb =>
    obtain rfl := Option.some.inj h
    exact rsame34_c w A0 c0 l0 A1 c1 l1 hr0 hc0 hr1 hc1 hb
  · cases h
end Go.Proofs.Ytiaoppikdgoieaa.M
namespace Go.Proofs.Ytiaoppikdgoieaa.M
open Go.RowKit Go.Proofs.YtiaoppikdgoieaaW.PrintWords Go.Proofs.YtiaoppikdgoieaaW.PrintLast Go.Proofs.YtiaoppikdgoieaaW.PrintMore
attribute [local go_sem] max2_int min2_int max_two min_two max_three min_three max_four min_four
set_option linter.unusedVariables false
set_option linter.unusedSimpArgs false

/-! ### sennitlaw07_PickNormal: function 16 -/
def sennitlaw07_PickNormal.l0 : Nat → List (S27) → Bool → List (S27) → Int → Option (Bool)
  | 0, _, _, _, _ => none
  | k + 1, x0, x3, x4, x5 => if x5 < (x4.length : Int) then (if 0 ≤ x5 then (if ((rd_T27 x4 x5).f0 = true) then (sennitlaw07_PickNormal.l0 k x0 x3 x4 (wrap64 (x5 + 1))) else (if (((rd_T27 x4 x5).f1).length : Int) = 0 then (some false) else (if x5 > 0 then (if 0 ≤ (wrap64 (x5 - 1)) then (if (wrap64 (x5 - 1)) < (x4.length : Int) then (if ((rd_T27 x4 (wrap64 (x5 - 1))).f0 = true) then (sennitlaw07_PickNormal.l0 k x0 x3 x4 (wrap64 (x5 + 1))) else (some false)) else (none)) else (none)) else (sennitlaw07_PickNormal.l0 k x0 x3 x4 (wrap64 (x5 + 1)))))) else (none)) else (if x3 = true then ((sennitref07_Normal.f k x0).bind fun t717 => ((sennitref07_Same.f k x4 t717).bind fun t720 => (if t720 = true then ((pick_Normal.f k x4).bind fun t721 => ((sennitref07_Same.f k t721 x4).bind fun t724 => (if t724 = true then ((pick_Clean.f k x4).bind fun t725 => ((sennitref07_Clean.f k x0).bind fun t726 => (some (t725 == t726)))) else (some false)))) else (some false)))) else (some false))
def sennitlaw07_PickNormal.f (k : Nat) (l0 : List (S27)) : Option (Bool) := (sennitlaw07_awake.f k).bind fun t709 => ((sennitref07_Few.f k l0).bind fun t710 => (if t710 = true then ((pick_Normal.f k l0).bind fun t711 => (sennitlaw07_PickNormal.l0 k l0 t709 t711 0)) else (some t709)))
theorem sennitlaw07_PickNormal.mono_l : ∀ k, (∀ y0 y1 y2 y3, LeO (sennitlaw07_PickNormal.l0 k y0 y1 y2 y3) (sennitlaw07_PickNormal.l0 (k + 1) y0 y1 y2 y3))
  | 0 => fun _ _ _ _ r h => by simp [sennitlaw07_PickNormal.l0] at h
  | k + 1 => by
    have ih0 := sennitlaw07_PickNormal.mono_l k
    · intro y0 y1 y2 y3
      unfold sennitlaw07_PickNormal.l0
      repeat' first
      | (with_reducible exact ih0 _ _ _ _)
      | (with_reducible exact pick_Clean.mono _ _)
      | (with_reducible exact pick_Normal.mono _ _)
      | (with_reducible exact sennitlaw07_awake.mono _)
      | (with_reducible exact sennitref07_Clean.mono _ _)
      | (with_reducible exact sennitref07_Few.mono _ _)
      | (with_reducible exact sennitref07_Normal.mono _ _)
      | (with_reducible exact sennitref07_Same.mono _ _ _)
      | (with_reducible exact LeO.refl _)
      | (with_reducible exact LeO.none _)
      | (with_reducible refine LeO.ite ?_ ?_)
      | (with_reducible refine LeO.bind ?_ (fun _ => ?_))
      | exact ih0 _ _ _ _
      | exact pick_Clean.mono _ _
      | exact pick_Normal.mono _ _
      | exact sennitlaw07_awake.mono _
      | exact sennitref07_Clean.mono _ _
      | exact sennitref07_Few.mono _ _
      | exact sennitref07_Normal.mono _ _
      | exact sennitref07_Same.mono _ _ _
      | exact LeO.none _
      | refine LeO.ite ?_ ?_
      | refine LeO.bind ?_ (fun _ => ?_)
theorem sennitlaw07_PickNormal.mono : ∀ a0 k, LeO (sennitlaw07_PickNormal.f k a0) (sennitlaw07_PickNormal.f (k + 1) a0) := by
  intro a0 k
  have ih0 := sennitlaw07_PickNormal.mono_l k
  unfold sennitlaw07_PickNormal.f
  repeat' first
      | (with_reducible exact ih0 _ _ _ _)
      | (with_reducible exact pick_Clean.mono _ _)
      | (with_reducible exact pick_Normal.mono _ _)
      | (with_reducible exact sennitlaw07_awake.mono _)
      | (with_reducible exact sennitref07_Clean.mono _ _)
      | (with_reducible exact sennitref07_Few.mono _ _)
      | (with_reducible exact sennitref07_Normal.mono _ _)
      | (with_reducible exact sennitref07_Same.mono _ _ _)
      | (with_reducible exact LeO.refl _)
      | (with_reducible exact LeO.none _)
      | (with_reducible refine LeO.ite ?_ ?_)
      | (with_reducible refine LeO.bind ?_ (fun _ => ?_))
      | exact ih0 _ _ _ _
      | exact pick_Clean.mono _ _
      | exact pick_Normal.mono _ _
      | exact sennitlaw07_awake.mono _
      | exact sennitref07_Clean.mono _ _
      | exact sennitref07_Few.mono _ _
      | exact sennitref07_Normal.mono _ _
      | exact sennitref07_Same.mono _ _ _
      | exact LeO.none _
      | refine LeO.ite ?_ ?_
      | refine LeO.bind ?_ (fun _ => ?_)
set_option maxHeartbeats 8000000 in
set_option maxRecDepth 100000 in
theorem sennitlaw07_PickNormal.calls (k : Nat) (A0 : Option Addr) (c0 : Nat) (l0 : List (S27)) (r : Bool) (w : World) (hr0 : Kd.C k27 w A0 l0.length l0) (hc0 : l0.length ≤ c0) (h : sennitlaw07_PickNormal.f k l0 = some r) :
    Calls Try.prog 16 #[.slice A0 l0.length c0] w fun e w' => e = .returned (.bool r) ∧ Below w.heap.size w w' := by
  have HR0 := Aside0.mk hr0
  have HC0 := Aside0.mk hc0
  clear hr0 hc0
  have HB := Aside0.mk (Below.refl w.heap.size w)
  have H : ((sennitlaw07_awake.f k).bind fun t709 => ((sennitref07_Few.f k l0).bind fun t710 => (if t710 = true then ((pick_Normal.f k l0).bind fun t711 => (sennitlaw07_PickNormal.l0 k l0 t709 t711 0)) else (some t709)))) = some r := h
  clear h
  replace H := Option.bind_eq_some_iff.mp H
  obtain ⟨t709, A20, H⟩ := H
  replace H : ((sennitref07_Few.f k l0).bind fun t710 => (if t710 = true then ((pick_Normal.f k l0).bind fun t711 => (sennitlaw07_PickNormal.l0 k l0 t709 t711 0)) else (some t709))) = some r := H
  have A2 := Aside0.mk A20
  clear A20
  replace H := Option.bind_eq_some_iff.mp H
  obtain ⟨t710, A30, H⟩ := H
  replace H : (if t710 = true then ((pick_Normal.f k l0).bind fun t711 => (sennitlaw07_PickNormal.l0 k l0 t709 t711 0)) else (some t709)) = some r := H
  have A3 := Aside0.mk A30
  clear A30
  by_cases c4 : t710 = true
  · subst c4
    have H1 : ((pick_Normal.f k l0).bind fun t711 => (sennitlaw07_PickNormal.l0 k l0 t709 t711 0)) = some r := by rw [if_pos rfl] at H; exact H
    clear H
    have H := H1
    clear H1
    replace H := Option.bind_eq_some_iff.mp H
    obtain ⟨t711, A50, H⟩ := H
    replace H : (sennitlaw07_PickNormal.l0 k l0 t709 t711 0) = some r := H
    have A5 := Aside0.mk A50
    clear A50
    have H' := Aside0.mk H
    clear H
    go_enter Try.func16, Try.ntmps16
    go_wp2_with (first | ((with_reducible refine gate_callee (f := 19) rfl ?_); refine goesL_ (some 6) rfl rfl Try.func19 (by kernel_rfl) rfl #[] rfl (by (try simp only [List.map_toArray, List.map_cons, List.map_nil]); first | done | rfl | (simp only [List.length_drop, List.length_take]; rfl)) ?_; (with_reducible refine (sennitlaw07_awake.calls k  t709 _ A2.out).mono ?_); rintro e w6 ⟨rfl, hb⟩; refine ⟨_, rfl, ?_⟩; have n0_ := Aside0.mk (below_step (by repeat (first | (with_reducible first | exact HB.out | apply below_alloc | apply pw_below_drewN | apply below_drew1) | exact HB.out)) hb); clear HB; have HB := n0_; clear n0_; (try clear hb); (try clear hb2); (try clear hk); (try clear hi)) | ((with_reducible refine gate_callee (f := 32) rfl ?_); refine goesL_ (some 8) rfl rfl Try.func32 (by kernel_rfl) rfl #[.slice A0 l0.length c0] rfl (by (try simp only [List.map_toArray, List.map_cons, List.map_nil]); first | done | rfl | (simp only [List.length_drop, List.length_take]; rfl)) ?_; (with_reducible refine (sennitref07_Few.calls k _ _ l0 true _ ?side1 ?side2 A3.out).mono ?_); (case side1 => repeat (first | exact (Kd.C_below HR0.out HB.out) | (with_reducible refine Kd.C_alloc ?_ _) | (with_reducible refine Kd.C_drewN ?_ _) | (with_reducible refine Kd.C_drew ?_))); (case side2 => exact HC0.out); rintro e w' ⟨rfl, ⟨nd, rfl⟩⟩; refine ⟨_, rfl, ?_⟩) | ((with_reducible refine gate_callee (f := 40) rfl ?_); refine goesL_ (some 12) rfl rfl Try.func40 (by kernel_rfl) rfl #[.slice A0 l0.length c0] rfl (by (try simp only [List.map_toArray, List.map_cons, List.map_nil]); first | done | rfl | (simp only [List.length_drop, List.length_take]; rfl)) ?_; (with_reducible refine (pick_Normal.calls k (fun k_ => k_ < w.heap.size) _ _ l0 t711 _ ?side1 A5.out).mono ?_); (case side1 => exact Kd.V_mk HC0.out (Kd.F_below (Kd.C_F k27_heap HR0.out) (by repeat (first | (with_reducible first | exact HB.out | apply below_alloc | apply pw_below_drewN | apply below_drew1) | exact HB.out)))); rintro e w7 ⟨v712, rfl, ho0, hb⟩; refine ⟨_, rfl, ?_⟩; have n0_ := Aside0.mk (Kd.N_lower (Kd.N_mono (ok' := fun k_ => True) ho0 (fun k_ hk_ => trivial)) (below_size (by repeat (first | (with_reducible first | exact HB.out | apply below_alloc | apply pw_below_drewN | apply below_drew1) | exact HB.out)))); have n1_ := Aside0.mk (below_step (by repeat (first | (with_reducible first | exact HB.out | apply below_alloc | apply pw_below_drewN | apply below_drew1) | exact HB.out)) hb); clear HB; have HO713 := n0_; have HB := n1_; clear n0_ n1_; (try clear hb); (try clear hb2); (try clear hk); (try clear hi); (try clear ho0)))
    go_loopg [5] k (fun kq v5 w' => ∃ (x5_1 : Int), v5 = .int .i64 x5_1 ∧ Aside0 (sennitlaw07_PickNormal.l0 kq l0 t709 t711 x5_1 = some r) ∧ Aside0 (kq ≤ k) ∧ Aside0 (Kd.N k27 27 w' w.heap.size (fun _ => True) v712 t711) ∧ Aside0 (Below w.heap.size w w'))
    case atStart => exact ⟨(0), (by first | rfl | (simp; done) | (simp [*]; done)), H', ⟨Nat.le_refl _⟩, ⟨by (with_reducible repeat (first | apply Kd.N_alloc | apply Kd.N_drewN | apply Kd.N_drew)); exact HO713.out⟩, ⟨by repeat (first | (with_reducible first | exact HB.out | apply below_alloc | apply pw_below_drewN | apply below_drew1) | exact HB.out)⟩⟩
    case round =>
      clear H'
      try clear c1
      try clear p2
      try clear c3
      try clear c4
      obtain ⟨x5_1, rfl, HA, HK1, HO_4, HB⟩ := hrel
      cases gk with
      | zero => exact absurd HA.out (by simp [sennitlaw07_PickNormal.l0])
      | succ k1 =>
        have H := HA.out
        clear HA
        simp only [sennitlaw07_PickNormal.l0] at H
        by_cases c8 : x5_1 < (t711.length : Int)
        · rw [if_pos c8] at H
          have c8b0 : decide (x5_1 < (t711.length : Int)) = true := decide_eq_true c8
          clear c8
          by_cases c9 : 0 ≤ x5_1
          · rw [if_pos c9] at H
            have c9b0 : decide (0 ≤ x5_1) = true := decide_eq_true c9
            clear c9
            obtain ⟨bq10, hbq10⟩ : ∃ b_ : Bool, b_ = ((rd_T27 t711 x5_1).f0) := ⟨_, rfl⟩
            replace H : (if (bq10 = true) then (sennitlaw07_PickNormal.l0 k1 l0 t709 t711 (wrap64 (x5_1 + 1))) else (if (((rd_T27 t711 x5_1).f1).length : Int) = 0 then (some false) else (if x5_1 > 0 then (if 0 ≤ (wrap64 (x5_1 - 1)) then (if (wrap64 (x5_1 - 1)) < (t711.length : Int) then (if ((rd_T27 t711 (wrap64 (x5_1 - 1))).f0 = true) then (sennitlaw07_PickNormal.l0 k1 l0 t709 t711 (wrap64 (x5_1 + 1))) else (some false)) else (none)) else (none)) else (sennitlaw07_PickNormal.l0 k1 l0 t709 t711 (wrap64 (x5_1 + 1)))))) = some r := by rw [← hbq10] at H; exact H
            have Nbq10 := Aside0.mk hbq10
            clear hbq10
            by_cases c11 : (bq10 = true)
            · subst c11
              have H1 : (sennitlaw07_PickNormal.l0 k1 l0 t709 t711 (wrap64 (x5_1 + 1))) = some r := by rw [if_pos rfl] at H; exact H
              clear H
              have H := H1
              clear H1
              have H' := Aside0.mk H
              clear H
              obtain ⟨Ao12, co12, eo12⟩ := Kd.N_slice HO_4.out
              subst eo12
              have p714 : 0 ≤ (x5_1 : Int) := of_decide_eq_true (by first | (with_reducible assumption) | assumption)
              have q714 : x5_1 < (t711.length : Int) := of_decide_eq_true (by first | (with_reducible assumption) | assumption)
              obtain ⟨ad714, A714_1, c714_1, A714_2, c714_2, A714_3, c714_3, e714, hx714_0, hx714_1, hx714_2, hx714_3, hl714_1, hi714_1, hl714_2, hi714_2, hl714_3, hi714_3⟩ := at_T27 (Kd.N_reads' HO_4.out).2.2 x5_1 p714 q714
              (try rw [← Nbq10.out] at hx714_0)
              cases e714
              obtain ⟨ce714, hce714, hMe714, hcc714⟩ := Kd.N_get HO_4.out z27 x5_1 p714 (by first | exact q714 | exact of_decide_eq_true (by first | (with_reducible assumption) | assumption) | (have e_ := (Kd.N_reads' HO_4.out).1; omega))
              obtain ⟨ua714_1, uc714_1, ua714_2, uc714_2, ua714_3, uc714_3, rfl, ul714_1, ge714_1, ul714_2, ge714_2, ul714_3, ge714_3⟩ := k27_openF hMe714
              have hv714_1 := hcc714 1 _ rfl
              rw [add_field _ _ 1 (by omega)] at hv714_1
              replace hv714_1 := Option.some.inj (hv714_1.symm.trans hx714_1)
              injection hv714_1 with hva_ hvn_ hvc_
              rw [hva_] at ge714_1
              rw [hvc_] at ul714_1
              have HL714_1 := Aside0.mk (show Kd.V Kd.string 9 _ w.heap.size _ _ ((rd_T27 t711 x5_1).f1) from Kd.V_mk ul714_1 ge714_1)
              clear hva_ hvn_ hvc_ ge714_1 ul714_1
              have hv714_2 := hcc714 2 _ rfl
              rw [add_field _ _ 2 (by omega)] at hv714_2
              replace hv714_2 := Option.some.inj (hv714_2.symm.trans hx714_2)
              injection hv714_2 with hva_ hvn_ hvc_
              rw [hva_] at ge714_2
              rw [hvc_] at ul714_2
              have HL714_2 := Aside0.mk (show Kd.V Kd.string 9 _ w.heap.size _ _ ((rd_T27 t711 x5_1).f2) from Kd.V_mk ul714_2 ge714_2)
              clear hva_ hvn_ hvc_ ge714_2 ul714_2
              have hv714_3 := hcc714 3 _ rfl
              rw [add_field _ _ 3 (by omega)] at hv714_3
              replace hv714_3 := Option.some.inj (hv714_3.symm.trans hx714_3)
              injection hv714_3 with hva_ hvn_ hvc_
              rw [hva_] at ge714_3
              rw [hvc_] at ul714_3
              have HL714_3 := Aside0.mk (show Kd.V (Kd.slice 9 Kd.string) 22 _ w.heap.size _ _ ((rd_T27 t711 x5_1).f3) from Kd.V_mk ul714_3 ge714_3)
              clear hva_ hvn_ hvc_ ge714_3 ul714_3
              clear hcc714 hce714
              have HR714_1 := Aside0.mk hi714_1
              have HC714_1 := Aside0.mk hl714_1
              clear hi714_1 hl714_1
              have HR714_2 := Aside0.mk hi714_2
              have HC714_2 := Aside0.mk hl714_2
              clear hi714_2 hl714_2
              have HR714_3 := Aside0.mk hi714_3
              have HC714_3 := Aside0.mk hl714_3
              clear hi714_3 hl714_3
              replace p714 := eq_true p714
              replace q714 := eq_true q714
              go_wp2
              go_roundg k1
              case measure => have := HK1.out; omega
              case rel => exact ⟨(wrap64 (x5_1 + 1)), (by first | rfl | (simp; done) | (simp [*]; done)), H', ⟨by have := HK1.out; omega⟩, ⟨by (with_reducible repeat (first | apply Kd.N_alloc | apply Kd.N_drewN | apply Kd.N_drew)); exact HO_4.out⟩, ⟨by repeat (first | (with_reducible first | exact HB.out | apply below_alloc | apply pw_below_drewN | apply below_drew1) | exact HB.out)⟩⟩
            · replace c11 := Bool.eq_false_iff.mpr c11
              subst c11
              have H1 : (if (((rd_T27 t711 x5_1).f1).length : Int) = 0 then (some false) else (if x5_1 > 0 then (if 0 ≤ (wrap64 (x5_1 - 1)) then (if (wrap64 (x5_1 - 1)) < (t711.length : Int) then (if ((rd_T27 t711 (wrap64 (x5_1 - 1))).f0 = true) then (sennitlaw07_PickNormal.l0 k1 l0 t709 t711 (wrap64 (x5_1 + 1))) else (some false)) else (none)) else (none)) else (sennitlaw07_PickNormal.l0 k1 l0 t709 t711 (wrap64 (x5_1 + 1))))) = some r := by rw [if_neg (show ¬ (false = true) by decide)] at H; exact H
              clear H
              have H := H1
              clear H1
              by_cases c13 : (((rd_T27 t711 x5_1).f1).length : Int) = 0
              · rw [if_pos c13] at H
                have c13b0 : ((((rd_T27 t711 x5_1).f1).length : Int) == 0) = true := beq_iff_eq.mpr c13
                have c13b1 : ((((rd_T27 t711 x5_1).f1).length : Int) != 0) = false := bne_eq_false_iff_eq.mpr c13
                clear c13
                obtain rfl := Option.some.inj H
                obtain ⟨Ao14, co14, eo14⟩ := Kd.N_slice HO_4.out
                subst eo14
                have p714 : 0 ≤ (x5_1 : Int) := of_decide_eq_true (by first | (with_reducible assumption) | assumption)
                have q714 : x5_1 < (t711.length : Int) := of_decide_eq_true (by first | (with_reducible assumption) | assumption)
                obtain ⟨ad714, A714_1, c714_1, A714_2, c714_2, A714_3, c714_3, e714, hx714_0, hx714_1, hx714_2, hx714_3, hl714_1, hi714_1, hl714_2, hi714_2, hl714_3, hi714_3⟩ := at_T27 (Kd.N_reads' HO_4.out).2.2 x5_1 p714 q714
                (try rw [← Nbq10.out] at hx714_0)
                cases e714
                obtain ⟨ce714, hce714, hMe714, hcc714⟩ := Kd.N_get HO_4.out z27 x5_1 p714 (by first | exact q714 | exact of_decide_eq_true (by first | (with_reducible assumption) | assumption) | (have e_ := (Kd.N_reads' HO_4.out).1; omega))
                obtain ⟨ua714_1, uc714_1, ua714_2, uc714_2, ua714_3, uc714_3, rfl, ul714_1, ge714_1, ul714_2, ge714_2, ul714_3, ge714_3⟩ := k27_openF hMe714
                have hv714_1 := hcc714 1 _ rfl
                rw [add_field _ _ 1 (by omega)] at hv714_1
                replace hv714_1 := Option.some.inj (hv714_1.symm.trans hx714_1)
                injection hv714_1 with hva_ hvn_ hvc_
                rw [hva_] at ge714_1
                rw [hvc_] at ul714_1
                have HL714_1 := Aside0.mk (show Kd.V Kd.string 9 _ w.heap.size _ _ ((rd_T27 t711 x5_1).f1) from Kd.V_mk ul714_1 ge714_1)
                clear hva_ hvn_ hvc_ ge714_1 ul714_1
                have hv714_2 := hcc714 2 _ rfl
                rw [add_field _ _ 2 (by omega)] at hv714_2
                replace hv714_2 := Option.some.inj (hv714_2.symm.trans hx714_2)
                injection hv714_2 with hva_ hvn_ hvc_
                rw [hva_] at ge714_2
                rw [hvc_] at ul714_2
                have HL714_2 := Aside0.mk (show Kd.V Kd.string 9 _ w.heap.size _ _ ((rd_T27 t711 x5_1).f2) from Kd.V_mk ul714_2 ge714_2)
                clear hva_ hvn_ hvc_ ge714_2 ul714_2
                have hv714_3 := hcc714 3 _ rfl
                rw [add_field _ _ 3 (by omega)] at hv714_3
                replace hv714_3 := Option.some.inj (hv714_3.symm.trans hx714_3)
                injection hv714_3 with hva_ hvn_ hvc_
                rw [hva_] at ge714_3
                rw [hvc_] at ul714_3
                have HL714_3 := Aside0.mk (show Kd.V (Kd.slice 9 Kd.string) 22 _ w.heap.size _ _ ((rd_T27 t711 x5_1).f3) from Kd.V_mk ul714_3 ge714_3)
                clear hva_ hvn_ hvc_ ge714_3 ul714_3
                clear hcc714 hce714
                have HR714_1 := Aside0.mk hi714_1
                have HC714_1 := Aside0.mk hl714_1
                clear hi714_1 hl714_1
                have HR714_2 := Aside0.mk hi714_2
                have HC714_2 := Aside0.mk hl714_2
                clear hi714_2 hl714_2
                have HR714_3 := Aside0.mk hi714_3
                have HC714_3 := Aside0.mk hl714_3
                clear hi714_3 hl714_3
                replace p714 := eq_true p714
                replace q714 := eq_true q714
                have p715 : 0 ≤ (x5_1 : Int) := of_decide_eq_true (by first | (with_reducible assumption) | assumption)
                have q715 : x5_1 < (t711.length : Int) := of_decide_eq_true (by first | (with_reducible assumption) | assumption)
                obtain ⟨ad715, A715_1, c715_1, A715_2, c715_2, A715_3, c715_3, e715, hx715_0, hx715_1, hx715_2, hx715_3, hl715_1, hi715_1, hl715_2, hi715_2, hl715_3, hi715_3⟩ := at_T27 (Kd.N_reads' HO_4.out).2.2 x5_1 p715 q715
                (try rw [← Nbq10.out] at hx715_0)
                obtain rfl : ad714 = ad715 := (by injection e715)
                obtain ⟨ce715, hce715, hMe715, hcc715⟩ := Kd.N_get HO_4.out z27 x5_1 p715 (by first | exact q715 | exact of_decide_eq_true (by first | (with_reducible assumption) | assumption) | (have e_ := (Kd.N_reads' HO_4.out).1; omega))
                obtain ⟨ua715_1, uc715_1, ua715_2, uc715_2, ua715_3, uc715_3, rfl, ul715_1, ge715_1, ul715_2, ge715_2, ul715_3, ge715_3⟩ := k27_openF hMe715
                have hv715_1 := hcc715 1 _ rfl
                rw [add_field _ _ 1 (by omega)] at hv715_1
                replace hv715_1 := Option.some.inj (hv715_1.symm.trans hx715_1)
                injection hv715_1 with hva_ hvn_ hvc_
                rw [hva_] at ge715_1
                rw [hvc_] at ul715_1
                have HL715_1 := Aside0.mk (show Kd.V Kd.string 9 _ w.heap.size _ _ ((rd_T27 t711 x5_1).f1) from Kd.V_mk ul715_1 ge715_1)
                clear hva_ hvn_ hvc_ ge715_1 ul715_1
                have hv715_2 := hcc715 2 _ rfl
                rw [add_field _ _ 2 (by omega)] at hv715_2
                replace hv715_2 := Option.some.inj (hv715_2.symm.trans hx715_2)
                injection hv715_2 with hva_ hvn_ hvc_
                rw [hva_] at ge715_2
                rw [hvc_] at ul715_2
                have HL715_2 := Aside0.mk (show Kd.V Kd.string 9 _ w.heap.size _ _ ((rd_T27 t711 x5_1).f2) from Kd.V_mk ul715_2 ge715_2)
                clear hva_ hvn_ hvc_ ge715_2 ul715_2
                have hv715_3 := hcc715 3 _ rfl
                rw [add_field _ _ 3 (by omega)] at hv715_3
                replace hv715_3 := Option.some.inj (hv715_3.symm.trans hx715_3)
                injection hv715_3 with hva_ hvn_ hvc_
                rw [hva_] at ge715_3
                rw [hvc_] at ul715_3
                have HL715_3 := Aside0.mk (show Kd.V (Kd.slice 9 Kd.string) 22 _ w.heap.size _ _ ((rd_T27 t711 x5_1).f3) from Kd.V_mk ul715_3 ge715_3)
                clear hva_ hvn_ hvc_ ge715_3 ul715_3
                clear hcc715 hce715
                have HR715_1 := Aside0.mk hi715_1
                have HC715_1 := Aside0.mk hl715_1
                clear hi715_1 hl715_1
                have HR715_2 := Aside0.mk hi715_2
                have HC715_2 := Aside0.mk hl715_2
                clear hi715_2 hl715_2
                have HR715_3 := Aside0.mk hi715_3
                have HC715_3 := Aside0.mk hl715_3
                clear hi715_3 hl715_3
                replace p715 := eq_true p715
                replace q715 := eq_true q715
                have ea_ := Option.some.inj (hx714_1.symm.trans hx715_1)
                injection ea_ with ea_ en_ ec_
                subst ea_
                subst ec_
                clear en_
                have ea_ := Option.some.inj (hx714_2.symm.trans hx715_2)
                injection ea_ with ea_ en_ ec_
                subst ea_
                subst ec_
                clear en_
                have ea_ := Option.some.inj (hx714_3.symm.trans hx715_3)
                injection ea_ with ea_ en_ ec_
                subst ea_
                subst ec_
                clear en_
                go_wp2
                go_ret
                exact ⟨by first | rfl | (simp [errW_none, errW_some] <;> rfl) | (simp [*, errW_none, errW_some] <;> rfl), by repeat (first | (with_reducible first | exact HB.out | apply below_alloc | apply pw_below_drewN | apply below_drew1) | exact HB.out)⟩
              · rw [if_neg c13] at H
                have c13b0 : ((((rd_T27 t711 x5_1).f1).length : Int) == 0) = false := beq_eq_false_iff_ne.mpr c13
                have c13b1 : ((((rd_T27 t711 x5_1).f1).length : Int) != 0) = true := bne_iff_ne.mpr c13
                have c13b2 : ¬ (((rd_T27 t711 x5_1).f1) = []) := fun h_ => c13 (by rw [h_]; rfl)
                by_cases c15 : x5_1 > 0
                · rw [if_pos c15] at H
                  have c15b0 : decide (0 < x5_1) = true := decide_eq_true c15
                  clear c15
                  obtain ⟨ji16, hji16⟩ : ∃ j_ : Int, (wrap64 (x5_1 - 1)) = j_ := ⟨_, rfl⟩
                  replace H : (if 0 ≤ (ji16) then (if (ji16) < (t711.length : Int) then (if ((rd_T27 t711 (ji16)).f0 = true) then (sennitlaw07_PickNormal.l0 k1 l0 t709 t711 (wrap64 (x5_1 + 1))) else (some false)) else (none)) else (none)) = some r := by first | (rw [hji16] at H; exact H) | (simp only [hji16] at H ⊢; exact H)
                  have hji16w : (IntKind.i64.wrap (x5_1 - 1)) = ji16 := (i64_w _).trans hji16
                  by_cases c17 : 0 ≤ (ji16)
                  · rw [if_pos c17] at H
                    have c17b0 : decide (0 ≤ (ji16)) = true := decide_eq_true c17
                    clear c17
                    by_cases c18 : (ji16) < (t711.length : Int)
                    · rw [if_pos c18] at H
                      have c18b0 : decide ((ji16) < (t711.length : Int)) = true := decide_eq_true c18
                      clear c18
                      obtain ⟨bq19, hbq19⟩ : ∃ b_ : Bool, b_ = ((rd_T27 t711 (ji16)).f0) := ⟨_, rfl⟩
                      replace H : (if (bq19 = true) then (sennitlaw07_PickNormal.l0 k1 l0 t709 t711 (wrap64 (x5_1 + 1))) else (some false)) = some r := by rw [← hbq19] at H; exact H
                      have Nbq19 := Aside0.mk hbq19
                      clear hbq19
                      by_cases c20 : (bq19 = true)
                      · subst c20
                        have H1 : (sennitlaw07_PickNormal.l0 k1 l0 t709 t711 (wrap64 (x5_1 + 1))) = some r := by rw [if_pos rfl] at H; exact H
                        clear H
                        have H := H1
                        clear H1
                        have H' := Aside0.mk H
                        clear H
                        obtain ⟨Ao21, co21, eo21⟩ := Kd.N_slice HO_4.out
                        subst eo21
                        have p714 : 0 ≤ (x5_1 : Int) := of_decide_eq_true (by first | (with_reducible assumption) | assumption)
                        have q714 : x5_1 < (t711.length : Int) := of_decide_eq_true (by first | (with_reducible assumption) | assumption)
                        obtain ⟨ad714, A714_1, c714_1, A714_2, c714_2, A714_3, c714_3, e714, hx714_0, hx714_1, hx714_2, hx714_3, hl714_1, hi714_1, hl714_2, hi714_2, hl714_3, hi714_3⟩ := at_T27 (Kd.N_reads' HO_4.out).2.2 x5_1 p714 q714
                        (try rw [← Nbq10.out] at hx714_0)
                        (try rw [← Nbq19.out] at hx714_0)
                        cases e714
                        obtain ⟨ce714, hce714, hMe714, hcc714⟩ := Kd.N_get HO_4.out z27 x5_1 p714 (by first | exact q714 | exact of_decide_eq_true (by first | (with_reducible assumption) | assumption) | (have e_ := (Kd.N_reads' HO_4.out).1; omega))
                        obtain ⟨ua714_1, uc714_1, ua714_2, uc714_2, ua714_3, uc714_3, rfl, ul714_1, ge714_1, ul714_2, ge714_2, ul714_3, ge714_3⟩ := k27_openF hMe714
                        have hv714_1 := hcc714 1 _ rfl
                        rw [add_field _ _ 1 (by omega)] at hv714_1
                        replace hv714_1 := Option.some.inj (hv714_1.symm.trans hx714_1)
                        injection hv714_1 with hva_ hvn_ hvc_
                        rw [hva_] at ge714_1
                        rw [hvc_] at ul714_1
                        have HL714_1 := Aside0.mk (show Kd.V Kd.string 9 _ w.heap.size _ _ ((rd_T27 t711 x5_1).f1) from Kd.V_mk ul714_1 ge714_1)
                        clear hva_ hvn_ hvc_ ge714_1 ul714_1
                        have hv714_2 := hcc714 2 _ rfl
                        rw [add_field _ _ 2 (by omega)] at hv714_2
                        replace hv714_2 := Option.some.inj (hv714_2.symm.trans hx714_2)
                        injection hv714_2 with hva_ hvn_ hvc_
                        rw [hva_] at ge714_2
                        rw [hvc_] at ul714_2
                        have HL714_2 := Aside0.mk (show Kd.V Kd.string 9 _ w.heap.size _ _ ((rd_T27 t711 x5_1).f2) from Kd.V_mk ul714_2 ge714_2)
                        clear hva_ hvn_ hvc_ ge714_2 ul714_2
                        have hv714_3 := hcc714 3 _ rfl
                        rw [add_field _ _ 3 (by omega)] at hv714_3
                        replace hv714_3 := Option.some.inj (hv714_3.symm.trans hx714_3)
                        injection hv714_3 with hva_ hvn_ hvc_
                        rw [hva_] at ge714_3
                        rw [hvc_] at ul714_3
                        have HL714_3 := Aside0.mk (show Kd.V (Kd.slice 9 Kd.string) 22 _ w.heap.size _ _ ((rd_T27 t711 x5_1).f3) from Kd.V_mk ul714_3 ge714_3)
                        clear hva_ hvn_ hvc_ ge714_3 ul714_3
                        clear hcc714 hce714
                        have HR714_1 := Aside0.mk hi714_1
                        have HC714_1 := Aside0.mk hl714_1
                        clear hi714_1 hl714_1
                        have HR714_2 := Aside0.mk hi714_2
                        have HC714_2 := Aside0.mk hl714_2
                        clear hi714_2 hl714_2
                        have HR714_3 := Aside0.mk hi714_3
                        have HC714_3 := Aside0.mk hl714_3
                        clear hi714_3 hl714_3
                        replace p714 := eq_true p714
                        replace q714 := eq_true q714
                        have p715 : 0 ≤ (x5_1 : Int) := of_decide_eq_true (by first | (with_reducible assumption) | assumption)
                        have q715 : x5_1 < (t711.length : Int) := of_decide_eq_true (by first | (with_reducible assumption) | assumption)
                        obtain ⟨ad715, A715_1, c715_1, A715_2, c715_2, A715_3, c715_3, e715, hx715_0, hx715_1, hx715_2, hx715_3, hl715_1, hi715_1, hl715_2, hi715_2, hl715_3, hi715_3⟩ := at_T27 (Kd.N_reads' HO_4.out).2.2 x5_1 p715 q715
                        (try rw [← Nbq10.out] at hx715_0)
                        (try rw [← Nbq19.out] at hx715_0)
                        obtain rfl : ad714 = ad715 := (by injection e715)
                        obtain ⟨ce715, hce715, hMe715, hcc715⟩ := Kd.N_get HO_4.out z27 x5_1 p715 (by first | exact q715 | exact of_decide_eq_true (by first | (with_reducible assumption) | assumption) | (have e_ := (Kd.N_reads' HO_4.out).1; omega))
                        obtain ⟨ua715_1, uc715_1, ua715_2, uc715_2, ua715_3, uc715_3, rfl, ul715_1, ge715_1, ul715_2, ge715_2, ul715_3, ge715_3⟩ := k27_openF hMe715
                        have hv715_1 := hcc715 1 _ rfl
                        rw [add_field _ _ 1 (by omega)] at hv715_1
                        replace hv715_1 := Option.some.inj (hv715_1.symm.trans hx715_1)
                        injection hv715_1 with hva_ hvn_ hvc_
                        rw [hva_] at ge715_1
                        rw [hvc_] at ul715_1
                        have HL715_1 := Aside0.mk (show Kd.V Kd.string 9 _ w.heap.size _ _ ((rd_T27 t711 x5_1).f1) from Kd.V_mk ul715_1 ge715_1)
                        clear hva_ hvn_ hvc_ ge715_1 ul715_1
                        have hv715_2 := hcc715 2 _ rfl
                        rw [add_field _ _ 2 (by omega)] at hv715_2
                        replace hv715_2 := Option.some.inj (hv715_2.symm.trans hx715_2)
                        injection hv715_2 with hva_ hvn_ hvc_
                        rw [hva_] at ge715_2
                        rw [hvc_] at ul715_2
                        have HL715_2 := Aside0.mk (show Kd.V Kd.string 9 _ w.heap.size _ _ ((rd_T27 t711 x5_1).f2) from Kd.V_mk ul715_2 ge715_2)
                        clear hva_ hvn_ hvc_ ge715_2 ul715_2
                        have hv715_3 := hcc715 3 _ rfl
                        rw [add_field _ _ 3 (by omega)] at hv715_3
                        replace hv715_3 := Option.some.inj (hv715_3.symm.trans hx715_3)
                        injection hv715_3 with hva_ hvn_ hvc_
                        rw [hva_] at ge715_3
                        rw [hvc_] at ul715_3
                        have HL715_3 := Aside0.mk (show Kd.V (Kd.slice 9 Kd.string) 22 _ w.heap.size _ _ ((rd_T27 t711 x5_1).f3) from Kd.V_mk ul715_3 ge715_3)
                        clear hva_ hvn_ hvc_ ge715_3 ul715_3
                        clear hcc715 hce715
                        have HR715_1 := Aside0.mk hi715_1
                        have HC715_1 := Aside0.mk hl715_1
                        clear hi715_1 hl715_1
                        have HR715_2 := Aside0.mk hi715_2
                        have HC715_2 := Aside0.mk hl715_2
                        clear hi715_2 hl715_2
                        have HR715_3 := Aside0.mk hi715_3
                        have HC715_3 := Aside0.mk hl715_3
                        clear hi715_3 hl715_3
                        replace p715 := eq_true p715
                        replace q715 := eq_true q715
                        have ea_ := Option.some.inj (hx714_1.symm.trans hx715_1)
                        injection ea_ with ea_ en_ ec_
                        subst ea_
                        subst ec_
                        clear en_
                        have ea_ := Option.some.inj (hx714_2.symm.trans hx715_2)
                        injection ea_ with ea_ en_ ec_
                        subst ea_
                        subst ec_
                        clear en_
                        have ea_ := Option.some.inj (hx714_3.symm.trans hx715_3)
                        injection ea_ with ea_ en_ ec_
                        subst ea_
                        subst ec_
                        clear en_
                        have p716 : 0 ≤ ((ji16) : Int) := of_decide_eq_true (by first | (with_reducible assumption) | assumption)
                        have q716 : (ji16) < (t711.length : Int) := of_decide_eq_true (by first | (with_reducible assumption) | assumption)
                        obtain ⟨ad716, A716_1, c716_1, A716_2, c716_2, A716_3, c716_3, e716, hx716_0, hx716_1, hx716_2, hx716_3, hl716_1, hi716_1, hl716_2, hi716_2, hl716_3, hi716_3⟩ := at_T27 (Kd.N_reads' HO_4.out).2.2 (ji16) p716 q716
                        (try rw [← Nbq10.out] at hx716_0)
                        (try rw [← Nbq19.out] at hx716_0)
                        obtain rfl : ad714 = ad716 := (by injection e716)
                        obtain ⟨ce716, hce716, hMe716, hcc716⟩ := Kd.N_get HO_4.out z27 (ji16) p716 (by first | exact q716 | exact of_decide_eq_true (by first | (with_reducible assumption) | assumption) | (have e_ := (Kd.N_reads' HO_4.out).1; omega))
                        obtain ⟨ua716_1, uc716_1, ua716_2, uc716_2, ua716_3, uc716_3, rfl, ul716_1, ge716_1, ul716_2, ge716_2, ul716_3, ge716_3⟩ := k27_openF hMe716
                        have hv716_1 := hcc716 1 _ rfl
                        rw [add_field _ _ 1 (by omega)] at hv716_1
                        replace hv716_1 := Option.some.inj (hv716_1.symm.trans hx716_1)
                        injection hv716_1 with hva_ hvn_ hvc_
                        rw [hva_] at ge716_1
                        rw [hvc_] at ul716_1
                        have HL716_1 := Aside0.mk (show Kd.V Kd.string 9 _ w.heap.size _ _ ((rd_T27 t711 (ji16)).f1) from Kd.V_mk ul716_1 ge716_1)
                        clear hva_ hvn_ hvc_ ge716_1 ul716_1
                        have hv716_2 := hcc716 2 _ rfl
                        rw [add_field _ _ 2 (by omega)] at hv716_2
                        replace hv716_2 := Option.some.inj (hv716_2.symm.trans hx716_2)
                        injection hv716_2 with hva_ hvn_ hvc_
                        rw [hva_] at ge716_2
                        rw [hvc_] at ul716_2
                        have HL716_2 := Aside0.mk (show Kd.V Kd.string 9 _ w.heap.size _ _ ((rd_T27 t711 (ji16)).f2) from Kd.V_mk ul716_2 ge716_2)
                        clear hva_ hvn_ hvc_ ge716_2 ul716_2
                        have hv716_3 := hcc716 3 _ rfl
                        rw [add_field _ _ 3 (by omega)] at hv716_3
                        replace hv716_3 := Option.some.inj (hv716_3.symm.trans hx716_3)
                        injection hv716_3 with hva_ hvn_ hvc_
                        rw [hva_] at ge716_3
                        rw [hvc_] at ul716_3
                        have HL716_3 := Aside0.mk (show Kd.V (Kd.slice 9 Kd.string) 22 _ w.heap.size _ _ ((rd_T27 t711 (ji16)).f3) from Kd.V_mk ul716_3 ge716_3)
                        clear hva_ hvn_ hvc_ ge716_3 ul716_3
                        clear hcc716 hce716
                        have HR716_1 := Aside0.mk hi716_1
                        have HC716_1 := Aside0.mk hl716_1
                        clear hi716_1 hl716_1
                        have HR716_2 := Aside0.mk hi716_2
                        have HC716_2 := Aside0.mk hl716_2
                        clear hi716_2 hl716_2
                        have HR716_3 := Aside0.mk hi716_3
                        have HC716_3 := Aside0.mk hl716_3
                        clear hi716_3 hl716_3
                        replace p716 := eq_true p716
                        replace q716 := eq_true q716
                        go_wp2
                        go_roundg k1
                        case measure => have := HK1.out; omega
                        case rel => exact ⟨(wrap64 (x5_1 + 1)), (by first | rfl | (simp; done) | (simp [*]; done)), H', ⟨by have := HK1.out; omega⟩, ⟨by (with_reducible repeat (first | apply Kd.N_alloc | apply Kd.N_drewN | apply Kd.N_drew)); exact HO_4.out⟩, ⟨by repeat (first | (with_reducible first | exact HB.out | apply below_alloc | apply pw_below_drewN | apply below_drew1) | exact HB.out)⟩⟩
                      · replace c20 := Bool.eq_false_iff.mpr c20
                        subst c20
                        have H1 : (some false) = some r := by rw [if_neg (show ¬ (false = true) by decide)] at H; exact H
                        clear H
                        have H := H1
                        clear H1
                        obtain rfl := Option.some.inj H
                        obtain ⟨Ao22, co22, eo22⟩ := Kd.N_slice HO_4.out
                        subst eo22
                        have p714 : 0 ≤ (x5_1 : Int) := of_decide_eq_true (by first | (with_reducible assumption) | assumption)
                        have q714 : x5_1 < (t711.length : Int) := of_decide_eq_true (by first | (with_reducible assumption) | assumption)
                        obtain ⟨ad714, A714_1, c714_1, A714_2, c714_2, A714_3, c714_3, e714, hx714_0, hx714_1, hx714_2, hx714_3, hl714_1, hi714_1, hl714_2, hi714_2, hl714_3, hi714_3⟩ := at_T27 (Kd.N_reads' HO_4.out).2.2 x5_1 p714 q714
                        (try rw [← Nbq10.out] at hx714_0)
                        (try rw [← Nbq19.out] at hx714_0)
                        cases e714
                        obtain ⟨ce714, hce714, hMe714, hcc714⟩ := Kd.N_get HO_4.out z27 x5_1 p714 (by first | exact q714 | exact of_decide_eq_true (by first | (with_reducible assumption) | assumption) | (have e_ := (Kd.N_reads' HO_4.out).1; omega))
                        obtain ⟨ua714_1, uc714_1, ua714_2, uc714_2, ua714_3, uc714_3, rfl, ul714_1, ge714_1, ul714_2, ge714_2, ul714_3, ge714_3⟩ := k27_openF hMe714
                        have hv714_1 := hcc714 1 _ rfl
                        rw [add_field _ _ 1 (by omega)] at hv714_1
                        replace hv714_1 := Option.some.inj (hv714_1.symm.trans hx714_1)
                        injection hv714_1 with hva_ hvn_ hvc_
                        rw [hva_] at ge714_1
                        rw [hvc_] at ul714_1
                        have HL714_1 := Aside0.mk (show Kd.V Kd.string 9 _ w.heap.size _ _ ((rd_T27 t711 x5_1).f1) from Kd.V_mk ul714_1 ge714_1)
                        clear hva_ hvn_ hvc_ ge714_1 ul714_1
                        have hv714_2 := hcc714 2 _ rfl
                        rw [add_field _ _ 2 (by omega)] at hv714_2
                        replace hv714_2 := Option.some.inj (hv714_2.symm.trans hx714_2)
                        injection hv714_2 with hva_ hvn_ hvc_
                        rw [hva_] at ge714_2
                        rw [hvc_] at ul714_2
                        have HL714_2 := Aside0.mk (show Kd.V Kd.string 9 _ w.heap.size _ _ ((rd_T27 t711 x5_1).f2) from Kd.V_mk ul714_2 ge714_2)
                        clear hva_ hvn_ hvc_ ge714_2 ul714_2
                        have hv714_3 := hcc714 3 _ rfl
                        rw [add_field _ _ 3 (by omega)] at hv714_3
                        replace hv714_3 := Option.some.inj (hv714_3.symm.trans hx714_3)
                        injection hv714_3 with hva_ hvn_ hvc_
                        rw [hva_] at ge714_3
                        rw [hvc_] at ul714_3
                        have HL714_3 := Aside0.mk (show Kd.V (Kd.slice 9 Kd.string) 22 _ w.heap.size _ _ ((rd_T27 t711 x5_1).f3) from Kd.V_mk ul714_3 ge714_3)
                        clear hva_ hvn_ hvc_ ge714_3 ul714_3
                        clear hcc714 hce714
                        have HR714_1 := Aside0.mk hi714_1
                        have HC714_1 := Aside0.mk hl714_1
                        clear hi714_1 hl714_1
                        have HR714_2 := Aside0.mk hi714_2
                        have HC714_2 := Aside0.mk hl714_2
                        clear hi714_2 hl714_2
                        have HR714_3 := Aside0.mk hi714_3
                        have HC714_3 := Aside0.mk hl714_3
                        clear hi714_3 hl714_3
                        replace p714 := eq_true p714
                        replace q714 := eq_true q714
                        have p715 : 0 ≤ (x5_1 : Int) := of_decide_eq_true (by first | (with_reducible assumption) | assumption)
                        have q715 : x5_1 < (t711.length : Int) := of_decide_eq_true (by first | (with_reducible assumption) | assumption)
                        obtain ⟨ad715, A715_1, c715_1, A715_2, c715_2, A715_3, c715_3, e715, hx715_0, hx715_1, hx715_2, hx715_3, hl715_1, hi715_1, hl715_2, hi715_2, hl715_3, hi715_3⟩ := at_T27 (Kd.N_reads' HO_4.out).2.2 x5_1 p715 q715
                        (try rw [← Nbq10.out] at hx715_0)
                        (try rw [← Nbq19.out] at hx715_0)
                        obtain rfl : ad714 = ad715 := (by injection e715)
                        obtain ⟨ce715, hce715, hMe715, hcc715⟩ := Kd.N_get HO_4.out z27 x5_1 p715 (by first | exact q715 | exact of_decide_eq_true (by first | (with_reducible assumption) | assumption) | (have e_ := (Kd.N_reads' HO_4.out).1; omega))
                        obtain ⟨ua715_1, uc715_1, ua715_2, uc715_2, ua715_3, uc715_3, rfl, ul715_1, ge715_1, ul715_2, ge715_2, ul715_3, ge715_3⟩ := k27_openF hMe715
                        have hv715_1 := hcc715 1 _ rfl
                        rw [add_field _ _ 1 (by omega)] at hv715_1
                        replace hv715_1 := Option.some.inj (hv715_1.symm.trans hx715_1)
                        injection hv715_1 with hva_ hvn_ hvc_
                        rw [hva_] at ge715_1
                        rw [hvc_] at ul715_1
                        have HL715_1 := Aside0.mk (show Kd.V Kd.string 9 _ w.heap.size _ _ ((rd_T27 t711 x5_1).f1) from Kd.V_mk ul715_1 ge715_1)
                        clear hva_ hvn_ hvc_ ge715_1 ul715_1
                        have hv715_2 := hcc715 2 _ rfl
                        rw [add_field _ _ 2 (by omega)] at hv715_2
                        replace hv715_2 := Option.some.inj (hv715_2.symm.trans hx715_2)
                        injection hv715_2 with hva_ hvn_ hvc_
                        rw [hva_] at ge715_2
                        rw [hvc_] at ul715_2
                        have HL715_2 := Aside0.mk (show Kd.V Kd.string 9 _ w.heap.size _ _ ((rd_T27 t711 x5_1).f2) from Kd.V_mk ul715_2 ge715_2)
                        clear hva_ hvn_ hvc_ ge715_2 ul715_2
                        have hv715_3 := hcc715 3 _ rfl
                        rw [add_field _ _ 3 (by omega)] at hv715_3
                        replace hv715_3 := Option.some.inj (hv715_3.symm.trans hx715_3)
                        injection hv715_3 with hva_ hvn_ hvc_
                        rw [hva_] at ge715_3
                        rw [hvc_] at ul715_3
                        have HL715_3 := Aside0.mk (show Kd.V (Kd.slice 9 Kd.string) 22 _ w.heap.size _ _ ((rd_T27 t711 x5_1).f3) from Kd.V_mk ul715_3 ge715_3)
                        clear hva_ hvn_ hvc_ ge715_3 ul715_3
                        clear hcc715 hce715
                        have HR715_1 := Aside0.mk hi715_1
                        have HC715_1 := Aside0.mk hl715_1
                        clear hi715_1 hl715_1
                        have HR715_2 := Aside0.mk hi715_2
                        have HC715_2 := Aside0.mk hl715_2
                        clear hi715_2 hl715_2
                        have HR715_3 := Aside0.mk hi715_3
                        have HC715_3 := Aside0.mk hl715_3
                        clear hi715_3 hl715_3
                        replace p715 := eq_true p715
                        replace q715 := eq_true q715
                        have ea_ := Option.some.inj (hx714_1.symm.trans hx715_1)
                        injection ea_ with ea_ en_ ec_
                        subst ea_
                        subst ec_
                        clear en_
                        have ea_ := Option.some.inj (hx714_2.symm.trans hx715_2)
                        injection ea_ with ea_ en_ ec_
                        subst ea_
                        subst ec_
                        clear en_
                        have ea_ := Option.some.inj (hx714_3.symm.trans hx715_3)
                        injection ea_ with ea_ en_ ec_
                        subst ea_
                        subst ec_
                        clear en_
                        have p716 : 0 ≤ ((ji16) : Int) := of_decide_eq_true (by first | (with_reducible assumption) | assumption)
                        have q716 : (ji16) < (t711.length : Int) := of_decide_eq_true (by first | (with_reducible assumption) | assumption)
                        obtain ⟨ad716, A716_1, c716_1, A716_2, c716_2, A716_3, c716_3, e716, hx716_0, hx716_1, hx716_2, hx716_3, hl716_1, hi716_1, hl716_2, hi716_2, hl716_3, hi716_3⟩ := at_T27 (Kd.N_reads' HO_4.out).2.2 (ji16) p716 q716
                        (try rw [← Nbq10.out] at hx716_0)
                        (try rw [← Nbq19.out] at hx716_0)
                        obtain rfl : ad714 = ad716 := (by injection e716)
                        obtain ⟨ce716, hce716, hMe716, hcc716⟩ := Kd.N_get HO_4.out z27 (ji16) p716 (by first | exact q716 | exact of_decide_eq_true (by first | (with_reducible assumption) | assumption) | (have e_ := (Kd.N_reads' HO_4.out).1; omega))
                        obtain ⟨ua716_1, uc716_1, ua716_2, uc716_2, ua716_3, uc716_3, rfl, ul716_1, ge716_1, ul716_2, ge716_2, ul716_3, ge716_3⟩ := k27_openF hMe716
                        have hv716_1 := hcc716 1 _ rfl
                        rw [add_field _ _ 1 (by omega)] at hv716_1
                        replace hv716_1 := Option.some.inj (hv716_1.symm.trans hx716_1)
                        injection hv716_1 with hva_ hvn_ hvc_
                        rw [hva_] at ge716_1
                        rw [hvc_] at ul716_1
                        have HL716_1 := Aside0.mk (show Kd.V Kd.string 9 _ w.heap.size _ _ ((rd_T27 t711 (ji16)).f1) from Kd.V_mk ul716_1 ge716_1)
                        clear hva_ hvn_ hvc_ ge716_1 ul716_1
                        have hv716_2 := hcc716 2 _ rfl
                        rw [add_field _ _ 2 (by omega)] at hv716_2
                        replace hv716_2 := Option.some.inj (hv716_2.symm.trans hx716_2)
                        injection hv716_2 with hva_ hvn_ hvc_
                        rw [hva_] at ge716_2
                        rw [hvc_] at ul716_2
                        have HL716_2 := Aside0.mk (show Kd.V Kd.string 9 _ w.heap.size _ _ ((rd_T27 t711 (ji16)).f2) from Kd.V_mk ul716_2 ge716_2)
                        clear hva_ hvn_ hvc_ ge716_2 ul716_2
                        have hv716_3 := hcc716 3 _ rfl
                        rw [add_field _ _ 3 (by omega)] at hv716_3
                        replace hv716_3 := Option.some.inj (hv716_3.symm.trans hx716_3)
                        injection hv716_3 with hva_ hvn_ hvc_
                        rw [hva_] at ge716_3
                        rw [hvc_] at ul716_3
                        have HL716_3 := Aside0.mk (show Kd.V (Kd.slice 9 Kd.string) 22 _ w.heap.size _ _ ((rd_T27 t711 (ji16)).f3) from Kd.V_mk ul716_3 ge716_3)
                        clear hva_ hvn_ hvc_ ge716_3 ul716_3
                        clear hcc716 hce716
                        have HR716_1 := Aside0.mk hi716_1
                        have HC716_1 := Aside0.mk hl716_1
                        clear hi716_1 hl716_1
                        have HR716_2 := Aside0.mk hi716_2
                        have HC716_2 := Aside0.mk hl716_2
                        clear hi716_2 hl716_2
                        have HR716_3 := Aside0.mk hi716_3
                        have HC716_3 := Aside0.mk hl716_3
                        clear hi716_3 hl716_3
                        replace p716 := eq_true p716
                        replace q716 := eq_true q716
                        go_wp2
                        go_ret
                        exact ⟨by first | rfl | (simp [errW_none, errW_some] <;> rfl) | (simp only [← hji16]; first | rfl | (simp [errW_none, errW_some] <;> rfl)) | (simp [*, errW_none, errW_some] <;> rfl), by repeat (first | (with_reducible first | exact HB.out | apply below_alloc | apply pw_below_drewN | apply below_drew1) | exact HB.out)⟩
                    · rw [if_neg c18] at H
                      exact absurd H (by simp)
                  · rw [if_neg c17] at H
                    exact absurd H (by simp)
                · rw [if_neg c15] at H
                  have c15b0 : decide (0 < x5_1) = false := decide_eq_false c15
                  clear c15
                  have H' := Aside0.mk H
                  clear H
                  obtain ⟨Ao23, co23, eo23⟩ := Kd.N_slice HO_4.out
                  subst eo23
                  have p714 : 0 ≤ (x5_1 : Int) := of_decide_eq_true (by first | (with_reducible assumption) | assumption)
                  have q714 : x5_1 < (t711.length : Int) := of_decide_eq_true (by first | (with_reducible assumption) | assumption)
                  obtain ⟨ad714, A714_1, c714_1, A714_2, c714_2, A714_3, c714_3, e714, hx714_0, hx714_1, hx714_2, hx714_3, hl714_1, hi714_1, hl714_2, hi714_2, hl714_3, hi714_3⟩ := at_T27 (Kd.N_reads' HO_4.out).2.2 x5_1 p714 q714
                  (try rw [← Nbq10.out] at hx714_0)
                  cases e714
                  obtain ⟨ce714, hce714, hMe714, hcc714⟩ := Kd.N_get HO_4.out z27 x5_1 p714 (by first | exact q714 | exact of_decide_eq_true (by first | (with_reducible assumption) | assumption) | (have e_ := (Kd.N_reads' HO_4.out).1; omega))
                  obtain ⟨ua714_1, uc714_1, ua714_2, uc714_2, ua714_3, uc714_3, rfl, ul714_1, ge714_1, ul714_2, ge714_2, ul714_3, ge714_3⟩ := k27_openF hMe714
                  have hv714_1 := hcc714 1 _ rfl
                  rw [add_field _ _ 1 (by omega)] at hv714_1
                  replace hv714_1 := Option.some.inj (hv714_1.symm.trans hx714_1)
                  injection hv714_1 with hva_ hvn_ hvc_
                  rw [hva_] at ge714_1
                  rw [hvc_] at ul714_1
                  have HL714_1 := Aside0.mk (show Kd.V Kd.string 9 _ w.heap.size _ _ ((rd_T27 t711 x5_1).f1) from Kd.V_mk ul714_1 ge714_1)
                  clear hva_ hvn_ hvc_ ge714_1 ul714_1
                  have hv714_2 := hcc714 2 _ rfl
                  rw [add_field _ _ 2 (by omega)] at hv714_2
                  replace hv714_2 := Option.some.inj (hv714_2.symm.trans hx714_2)
                  injection hv714_2 with hva_ hvn_ hvc_
                  rw [hva_] at ge714_2
                  rw [hvc_] at ul714_2
                  have HL714_2 := Aside0.mk (show Kd.V Kd.string 9 _ w.heap.size _ _ ((rd_T27 t711 x5_1).f2) from Kd.V_mk ul714_2 ge714_2)
                  clear hva_ hvn_ hvc_ ge714_2 ul714_2
                  have hv714_3 := hcc714 3 _ rfl
                  rw [add_field _ _ 3 (by omega)] at hv714_3
                  replace hv714_3 := Option.some.inj (hv714_3.symm.trans hx714_3)
                  injection hv714_3 with hva_ hvn_ hvc_
                  rw [hva_] at ge714_3
                  rw [hvc_] at ul714_3
                  have HL714_3 := Aside0.mk (show Kd.V (Kd.slice 9 Kd.string) 22 _ w.heap.size _ _ ((rd_T27 t711 x5_1).f3) from Kd.V_mk ul714_3 ge714_3)
                  clear hva_ hvn_ hvc_ ge714_3 ul714_3
                  clear hcc714 hce714
                  have HR714_1 := Aside0.mk hi714_1
                  have HC714_1 := Aside0.mk hl714_1
                  clear hi714_1 hl714_1
                  have HR714_2 := Aside0.mk hi714_2
                  have HC714_2 := Aside0.mk hl714_2
                  clear hi714_2 hl714_2
                  have HR714_3 := Aside0.mk hi714_3
                  have HC714_3 := Aside0.mk hl714_3
                  clear hi714_3 hl714_3
                  replace p714 := eq_true p714
                  replace q714 := eq_true q714
                  have p715 : 0 ≤ (x5_1 : Int) := of_decide_eq_true (by first | (with_reducible assumption) | assumption)
                  have q715 : x5_1 < (t711.length : Int) := of_decide_eq_true (by first | (with_reducible assumption) | assumption)
                  obtain ⟨ad715, A715_1, c715_1, A715_2, c715_2, A715_3, c715_3, e715, hx715_0, hx715_1, hx715_2, hx715_3, hl715_1, hi715_1, hl715_2, hi715_2, hl715_3, hi715_3⟩ := at_T27 (Kd.N_reads' HO_4.out).2.2 x5_1 p715 q715
                  (try rw [← Nbq10.out] at hx715_0)
                  obtain rfl : ad714 = ad715 := (by injection e715)
                  obtain ⟨ce715, hce715, hMe715, hcc715⟩ := Kd.N_get HO_4.out z27 x5_1 p715 (by first | exact q715 | exact of_decide_eq_true (by first | (with_reducible assumption) | assumption) | (have e_ := (Kd.N_reads' HO_4.out).1; omega))
                  obtain ⟨ua715_1, uc715_1, ua715_2, uc715_2, ua715_3, uc715_3, rfl, ul715_1, ge715_1, ul715_2, ge715_2, ul715_3, ge715_3⟩ := k27_openF hMe715
                  have hv715_1 := hcc715 1 _ rfl
                  rw [add_field _ _ 1 (by omega)] at hv715_1
                  replace hv715_1 := Option.some.inj (hv715_1.symm.trans hx715_1)
                  injection hv715_1 with hva_ hvn_ hvc_
                  rw [hva_] at ge715_1
                  rw [hvc_] at ul715_1
                  have HL715_1 := Aside0.mk (show Kd.V Kd.string 9 _ w.heap.size _ _ ((rd_T27 t711 x5_1).f1) from Kd.V_mk ul715_1 ge715_1)
                  clear hva_ hvn_ hvc_ ge715_1 ul715_1
                  have hv715_2 := hcc715 2 _ rfl
                  rw [add_field _ _ 2 (by omega)] at hv715_2
                  replace hv715_2 := Option.some.inj (hv715_2.symm.trans hx715_2)
                  injection hv715_2 with hva_ hvn_ hvc_
                  rw [hva_] at ge715_2
                  rw [hvc_] at ul715_2
                  have HL715_2 := Aside0.mk (show Kd.V Kd.string 9 _ w.heap.size _ _ ((rd_T27 t711 x5_1).f2) from Kd.V_mk ul715_2 ge715_2)
                  clear hva_ hvn_ hvc_ ge715_2 ul715_2
                  have hv715_3 := hcc715 3 _ rfl
                  rw [add_field _ _ 3 (by omega)] at hv715_3
                  replace hv715_3 := Option.some.inj (hv715_3.symm.trans hx715_3)
                  injection hv715_3 with hva_ hvn_ hvc_
                  rw [hva_] at ge715_3
                  rw [hvc_] at ul715_3
                  have HL715_3 := Aside0.mk (show Kd.V (Kd.slice 9 Kd.string) 22 _ w.heap.size _ _ ((rd_T27 t711 x5_1).f3) from Kd.V_mk ul715_3 ge715_3)
                  clear hva_ hvn_ hvc_ ge715_3 ul715_3
                  clear hcc715 hce715
                  have HR715_1 := Aside0.mk hi715_1
                  have HC715_1 := Aside0.mk hl715_1
                  clear hi715_1 hl715_1
                  have HR715_2 := Aside0.mk hi715_2
                  have HC715_2 := Aside0.mk hl715_2
                  clear hi715_2 hl715_2
                  have HR715_3 := Aside0.mk hi715_3
                  have HC715_3 := Aside0.mk hl715_3
                  clear hi715_3 hl715_3
                  replace p715 := eq_true p715
                  replace q715 := eq_true q715
                  have ea_ := Option.some.inj (hx714_1.symm.trans hx715_1)
                  injection ea_ with ea_ en_ ec_
                  subst ea_
                  subst ec_
                  clear en_
                  have ea_ := Option.some.inj (hx714_2.symm.trans hx715_2)
                  injection ea_ with ea_ en_ ec_
                  subst ea_
                  subst ec_
                  clear en_
                  have ea_ := Option.some.inj (hx714_3.symm.trans hx715_3)
                  injection ea_ with ea_ en_ ec_
                  subst ea_
                  subst ec_
                  clear en_
                  go_wp2
                  go_roundg k1
                  case measure => have := HK1.out; omega
                  case rel => exact ⟨(wrap64 (x5_1 + 1)), (by first | rfl | (simp; done) | (simp [*]; done)), H', ⟨by have := HK1.out; omega⟩, ⟨by (with_reducible repeat (first | apply Kd.N_alloc | apply Kd.N_drewN | apply Kd.N_drew)); exact HO_4.out⟩, ⟨by repeat (first | (with_reducible first | exact HB.out | apply below_alloc | apply pw_below_drewN | apply below_drew1) | exact HB.out)⟩⟩
          · rw [if_neg c9] at H
            exact absurd H (by simp)
        · rw [if_neg c8] at H
          have c8b0 : decide (x5_1 < (t711.length : Int)) = false := decide_eq_false c8
          clear c8
          by_cases c24 : t709 = true
          · subst c24
            have H1 : ((sennitref07_Normal.f k1 l0).bind fun t717 => ((sennitref07_Same.f k1 t711 t717).bind fun t720 => (if t720 = true then ((pick_Normal.f k1 t711).bind fun t721 => ((sennitref07_Same.f k1 t721 t711).bind fun t724 => (if t724 = true then ((pick_Clean.f k1 t711).bind fun t725 => ((sennitref07_Clean.f k1 l0).bind fun t726 => (some (t725 == t726)))) else (some false)))) else (some false)))) = some r := by rw [if_pos rfl] at H; exact H
            clear H
            have H := H1
            clear H1
            replace H := Option.bind_eq_some_iff.mp H
            obtain ⟨t717, A250, H⟩ := H
            replace H : ((sennitref07_Same.f k1 t711 t717).bind fun t720 => (if t720 = true then ((pick_Normal.f k1 t711).bind fun t721 => ((sennitref07_Same.f k1 t721 t711).bind fun t724 => (if t724 = true then ((pick_Clean.f k1 t711).bind fun t725 => ((sennitref07_Clean.f k1 l0).bind fun t726 => (some (t725 == t726)))) else (some false)))) else (some false))) = some r := H
            have A25 := Aside0.mk A250
            clear A250
            replace H := Option.bind_eq_some_iff.mp H
            obtain ⟨t720, A260, H⟩ := H
            replace H : (if t720 = true then ((pick_Normal.f k1 t711).bind fun t721 => ((sennitref07_Same.f k1 t721 t711).bind fun t724 => (if t724 = true then ((pick_Clean.f k1 t711).bind fun t725 => ((sennitref07_Clean.f k1 l0).bind fun t726 => (some (t725 == t726)))) else (some false)))) else (some false)) = some r := H
            have A26 := Aside0.mk A260
            clear A260
            by_cases c27 : t720 = true
            · subst c27
              have H1 : ((pick_Normal.f k1 t711).bind fun t721 => ((sennitref07_Same.f k1 t721 t711).bind fun t724 => (if t724 = true then ((pick_Clean.f k1 t711).bind fun t725 => ((sennitref07_Clean.f k1 l0).bind fun t726 => (some (t725 == t726)))) else (some false)))) = some r := by rw [if_pos rfl] at H; exact H
              clear H
              have H := H1
              clear H1
              replace H := Option.bind_eq_some_iff.mp H
              obtain ⟨t721, A280, H⟩ := H
              replace H : ((sennitref07_Same.f k1 t721 t711).bind fun t724 => (if t724 = true then ((pick_Clean.f k1 t711).bind fun t725 => ((sennitref07_Clean.f k1 l0).bind fun t726 => (some (t725 == t726)))) else (some false))) = some r := H
              have A28 := Aside0.mk A280
              clear A280
              replace H := Option.bind_eq_some_iff.mp H
              obtain ⟨t724, A290, H⟩ := H
              replace H : (if t724 = true then ((pick_Clean.f k1 t711).bind fun t725 => ((sennitref07_Clean.f k1 l0).bind fun t726 => (some (t725 == t726)))) else (some false)) = some r := H
              have A29 := Aside0.mk A290
              clear A290
              by_cases c30 : t724 = true
              · subst c30
                have H1 : ((pick_Clean.f k1 t711).bind fun t725 => ((sennitref07_Clean.f k1 l0).bind fun t726 => (some (t725 == t726)))) = some r := by rw [if_pos rfl] at H; exact H
                clear H
                have H := H1
                clear H1
                replace H := Option.bind_eq_some_iff.mp H
                obtain ⟨t725, A310, H⟩ := H
                replace H : ((sennitref07_Clean.f k1 l0).bind fun t726 => (some (t725 == t726))) = some r := H
                have A31 := Aside0.mk A310
                clear A310
                replace H := Option.bind_eq_some_iff.mp H
                obtain ⟨t726, A320, H⟩ := H
                replace H : (some (t725 == t726)) = some r := H
                have A32 := Aside0.mk A320
                clear A320
                obtain rfl := Option.some.inj H
                obtain ⟨Ao33, co33, eo33⟩ := Kd.N_slice HO_4.out
                subst eo33
                go_wp2_with (first | (go_at_call 42; (with_reducible refine (sennitref07_Normal.calls k1 (fun k_ => k_ < w.heap.size) _ _ l0 t717 _ ?side1 A25.out).mono ?_); (case side1 => exact Kd.V_mk HC0.out (Kd.F_below (Kd.C_F k27_heap HR0.out) (by repeat (first | (with_reducible first | exact HB.out | apply below_alloc | apply pw_below_drewN | apply below_drew1) | exact HB.out)))); rintro e w34 ⟨v718, rfl, ho0, hb⟩; have n0_ := Aside0.mk (Kd.N_elder' (by (with_reducible repeat (first | apply Kd.N_alloc | apply Kd.N_drewN | apply Kd.N_drew)); exact HO_4.out) (Kd.N_base ho0) hb); have n1_ := Aside0.mk (Kd.N_lower (Kd.N_mono (ok' := fun k_ => some k_ ≠ (.slice Ao33 t711.length co33 : Value).ownBlock) ho0 (fun k_ hk_ => Or.elim hk_ (fun hs_ => fun e_ => Nat.not_le.2 hs_ (Kd.N_base HO_4.out k_ e_.symm)) (fun hn_ => (Kd.fresh' (Kd.N_lt (by (with_reducible repeat (first | apply Kd.N_alloc | apply Kd.N_drewN | apply Kd.N_drew)); exact HO_4.out)) k_ hn_)))) (below_size (by repeat (first | (with_reducible first | exact HB.out | apply below_alloc | apply pw_below_drewN | apply below_drew1) | exact HB.out)))); have n2_ := Aside0.mk (below_step (by repeat (first | (with_reducible first | exact HB.out | apply below_alloc | apply pw_below_drewN | apply below_drew1) | exact HB.out)) hb); clear HO_4; clear HB; have HO_4 := n0_; have HO719 := n1_; have HB := n2_; clear n0_ n1_ n2_; (try clear hb); (try clear hb2); (try clear hk); (try clear hi); (try clear ho0); obtain ⟨Ao35, co35, eo35⟩ := Kd.N_slice HO719.out; subst eo35) | (go_at_call 34; (with_reducible refine (sennitref07_Same.calls k1 _ _ t711 _ _ t717 true _ ?side1 ?side2 ?side3 ?side4 A26.out).mono ?_); (case side1 => repeat (first | exact (Kd.N_reads' HO_4.out).2.2 | (with_reducible refine Kd.C_alloc ?_ _) | (with_reducible refine Kd.C_drewN ?_ _) | (with_reducible refine Kd.C_drew ?_))); (case side2 => exact (Kd.N_reads' HO_4.out).2.1); (case side3 => repeat (first | exact (Kd.N_reads' HO719.out).2.2 | (with_reducible refine Kd.C_alloc ?_ _) | (with_reducible refine Kd.C_drewN ?_ _) | (with_reducible refine Kd.C_drew ?_))); (case side4 => exact (Kd.N_reads' HO719.out).2.1); rintro e w' ⟨rfl, ⟨nd, rfl⟩⟩) | (go_at_call 40; (with_reducible refine (pick_Normal.calls k1 (fun k_ => (True ∧ some k_ ≠ (.slice Ao35 t717.length co35 : Value).ownBlock)) _ _ t711 t721 _ ?side1 A28.out).mono ?_); (case side1 => exact Kd.N_V (HO_4.out)); rintro e w36 ⟨v722, rfl, ho0, hb⟩; have n0_ := Aside0.mk (Kd.N_elder' (by (with_reducible repeat (first | apply Kd.N_alloc | apply Kd.N_drewN | apply Kd.N_drew)); exact HO_4.out) (Kd.N_base ho0) hb); have n1_ := Aside0.mk (Kd.N_elder' (by (with_reducible repeat (first | apply Kd.N_alloc | apply Kd.N_drewN | apply Kd.N_drew)); exact HO719.out) (Kd.N_base ho0) hb); have n2_ := Aside0.mk (Kd.N_lower (Kd.N_mono (ok' := fun k_ => some k_ ≠ (.slice Ao35 t717.length co35 : Value).ownBlock) ho0 (fun k_ hk_ => Or.elim hk_ (fun hs_ => hs_.2) (fun hn_ => (Kd.fresh' (Kd.N_lt (by (with_reducible repeat (first | apply Kd.N_alloc | apply Kd.N_drewN | apply Kd.N_drew)); exact HO719.out)) k_ hn_)))) (below_size (by repeat (first | (with_reducible first | exact HB.out | apply below_alloc | apply pw_below_drewN | apply below_drew1) | exact HB.out)))); have n3_ := Aside0.mk (below_step (by repeat (first | (with_reducible first | exact HB.out | apply below_alloc | apply pw_below_drewN | apply below_drew1) | exact HB.out)) hb); clear HO_4; clear HO719; clear HB; have HO_4 := n0_; have HO719 := n1_; have HO723 := n2_; have HB := n3_; clear n0_ n1_ n2_ n3_; (try clear hb); (try clear hb2); (try clear hk); (try clear hi); (try clear ho0); obtain ⟨Ao37, co37, eo37⟩ := Kd.N_slice HO723.out; subst eo37) | (go_at_call 34; (with_reducible refine (sennitref07_Same.calls k1 _ _ t721 _ _ t711 true _ ?side1 ?side2 ?side3 ?side4 A29.out).mono ?_); (case side1 => repeat (first | exact (Kd.N_reads' HO723.out).2.2 | (with_reducible refine Kd.C_alloc ?_ _) | (with_reducible refine Kd.C_drewN ?_ _) | (with_reducible refine Kd.C_drew ?_))); (case side2 => exact (Kd.N_reads' HO723.out).2.1); (case side3 => repeat (first | exact (Kd.N_reads' HO_4.out).2.2 | (with_reducible refine Kd.C_alloc ?_ _) | (with_reducible refine Kd.C_drewN ?_ _) | (with_reducible refine Kd.C_drew ?_))); (case side4 => exact (Kd.N_reads' HO_4.out).2.1); rintro e w' ⟨rfl, ⟨nd, rfl⟩⟩) | (go_at_call 43; (with_reducible refine (pick_Clean.calls k1 _ _ t711 t725 _ ?side1 ?side2 A31.out).mono ?_); (case side1 => repeat (first | exact (Kd.N_reads' HO_4.out).2.2 | (with_reducible refine Kd.C_alloc ?_ _) | (with_reducible refine Kd.C_drewN ?_ _) | (with_reducible refine Kd.C_drew ?_))); (case side2 => exact (Kd.N_reads' HO_4.out).2.1); rintro e w38 ⟨rfl, hb⟩; have n0_ := Aside0.mk (Kd.N_below (by (with_reducible repeat (first | apply Kd.N_alloc | apply Kd.N_drewN | apply Kd.N_drew)); exact HO_4.out) hb); have n1_ := Aside0.mk (Kd.N_below (by (with_reducible repeat (first | apply Kd.N_alloc | apply Kd.N_drewN | apply Kd.N_drew)); exact HO719.out) hb); have n2_ := Aside0.mk (Kd.N_below (by (with_reducible repeat (first | apply Kd.N_alloc | apply Kd.N_drewN | apply Kd.N_drew)); exact HO723.out) hb); have n3_ := Aside0.mk (below_step (by repeat (first | (with_reducible first | exact HB.out | apply below_alloc | apply pw_below_drewN | apply below_drew1) | exact HB.out)) hb); clear HO_4; clear HO719; clear HO723; clear HB; have HO_4 := n0_; have HO719 := n1_; have HO723 := n2_; have HB := n3_; clear n0_ n1_ n2_ n3_; (try clear hb); (try clear hb2); (try clear hk); (try clear hi)) | (go_at_call 41; (with_reducible refine (sennitref07_Clean.calls k1 _ _ l0 t726 _ ?side1 ?side2 A32.out).mono ?_); (case side1 => repeat (first | exact (Kd.C_below HR0.out HB.out) | (with_reducible refine Kd.C_alloc ?_ _) | (with_reducible refine Kd.C_drewN ?_ _) | (with_reducible refine Kd.C_drew ?_))); (case side2 => exact HC0.out); rintro e w' ⟨rfl, ⟨nd, rfl⟩⟩))
                go_ret
                exact ⟨by first | rfl | (simp [errW_none, errW_some] <;> rfl) | (simp [*, errW_none, errW_some] <;> rfl), by repeat (first | (with_reducible first | exact HB.out | apply below_alloc | apply pw_below_drewN | apply below_drew1) | exact HB.out)⟩
              · replace c30 := Bool.eq_false_iff.mpr c30
                subst c30
                have H1 : (some false) = some r := by rw [if_neg (show ¬ (false = true) by decide)] at H; exact H
                clear H
                have H := H1
                clear H1
                obtain rfl := Option.some.inj H
                obtain ⟨Ao39, co39, eo39⟩ := Kd.N_slice HO_4.out
                subst eo39
                go_wp2_with (first | (go_at_call 42; (with_reducible refine (sennitref07_Normal.calls k1 (fun k_ => k_ < w.heap.size) _ _ l0 t717 _ ?side1 A25.out).mono ?_); (case side1 => exact Kd.V_mk HC0.out (Kd.F_below (Kd.C_F k27_heap HR0.out) (by repeat (first | (with_reducible first | exact HB.out | apply below_alloc | apply pw_below_drewN | apply below_drew1) | exact HB.out)))); rintro e w40 ⟨v718, rfl, ho0, hb⟩; have n0_ := Aside0.mk (Kd.N_elder' (by (with_reducible repeat (first | apply Kd.N_alloc | apply Kd.N_drewN | apply Kd.N_drew)); exact HO_4.out) (Kd.N_base ho0) hb); have n1_ := Aside0.mk (Kd.N_lower (Kd.N_mono (ok' := fun k_ => some k_ ≠ (.slice Ao39 t711.length co39 : Value).ownBlock) ho0 (fun k_ hk_ => Or.elim hk_ (fun hs_ => fun e_ => Nat.not_le.2 hs_ (Kd.N_base HO_4.out k_ e_.symm)) (fun hn_ => (Kd.fresh' (Kd.N_lt (by (with_reducible repeat (first | apply Kd.N_alloc | apply Kd.N_drewN | apply Kd.N_drew)); exact HO_4.out)) k_ hn_)))) (below_size (by repeat (first | (with_reducible first | exact HB.out | apply below_alloc | apply pw_below_drewN | apply below_drew1) | exact HB.out)))); have n2_ := Aside0.mk (below_step (by repeat (first | (with_reducible first | exact HB.out | apply below_alloc | apply pw_below_drewN | apply below_drew1) | exact HB.out)) hb); clear HO_4; clear HB; have HO_4 := n0_; have HO719 := n1_; have HB := n2_; clear n0_ n1_ n2_; (try clear hb); (try clear hb2); (try clear hk); (try clear hi); (try clear ho0); obtain ⟨Ao41, co41, eo41⟩ := Kd.N_slice HO719.out; subst eo41) | (go_at_call 34; (with_reducible refine (sennitref07_Same.calls k1 _ _ t711 _ _ t717 true _ ?side1 ?side2 ?side3 ?side4 A26.out).mono ?_); (case side1 => repeat (first | exact (Kd.N_reads' HO_4.out).2.2 | (with_reducible refine Kd.C_alloc ?_ _) | (with_reducible refine Kd.C_drewN ?_ _) | (with_reducible refine Kd.C_drew ?_))); (case side2 => exact (Kd.N_reads' HO_4.out).2.1); (case side3 => repeat (first | exact (Kd.N_reads' HO719.out).2.2 | (with_reducible refine Kd.C_alloc ?_ _) | (with_reducible refine Kd.C_drewN ?_ _) | (with_reducible refine Kd.C_drew ?_))); (case side4 => exact (Kd.N_reads' HO719.out).2.1); rintro e w' ⟨rfl, ⟨nd, rfl⟩⟩) | (go_at_call 40; (with_reducible refine (pick_Normal.calls k1 (fun k_ => (True ∧ some k_ ≠ (.slice Ao41 t717.length co41 : Value).ownBlock)) _ _ t711 t721 _ ?side1 A28.out).mono ?_); (case side1 => exact Kd.N_V (HO_4.out)); rintro e w42 ⟨v722, rfl, ho0, hb⟩; have n0_ := Aside0.mk (Kd.N_elder' (by (with_reducible repeat (first | apply Kd.N_alloc | apply Kd.N_drewN | apply Kd.N_drew)); exact HO_4.out) (Kd.N_base ho0) hb); have n1_ := Aside0.mk (Kd.N_elder' (by (with_reducible repeat (first | apply Kd.N_alloc | apply Kd.N_drewN | apply Kd.N_drew)); exact HO719.out) (Kd.N_base ho0) hb); have n2_ := Aside0.mk (Kd.N_lower (Kd.N_mono (ok' := fun k_ => some k_ ≠ (.slice Ao41 t717.length co41 : Value).ownBlock) ho0 (fun k_ hk_ => Or.elim hk_ (fun hs_ => hs_.2) (fun hn_ => (Kd.fresh' (Kd.N_lt (by (with_reducible repeat (first | apply Kd.N_alloc | apply Kd.N_drewN | apply Kd.N_drew)); exact HO719.out)) k_ hn_)))) (below_size (by repeat (first | (with_reducible first | exact HB.out | apply below_alloc | apply pw_below_drewN | apply below_drew1) | exact HB.out)))); have n3_ := Aside0.mk (below_step (by repeat (first | (with_reducible first | exact HB.out | apply below_alloc | apply pw_below_drewN | apply below_drew1) | exact HB.out)) hb); clear HO_4; clear HO719; clear HB; have HO_4 := n0_; have HO719 := n1_; have HO723 := n2_; have HB := n3_; clear n0_ n1_ n2_ n3_; (try clear hb); (try clear hb2); (try clear hk); (try clear hi); (try clear ho0); obtain ⟨Ao43, co43, eo43⟩ := Kd.N_slice HO723.out; subst eo43) | (go_at_call 34; (with_reducible refine (sennitref07_Same.calls k1 _ _ t721 _ _ t711 false _ ?side1 ?side2 ?side3 ?side4 A29.out).mono ?_); (case side1 => repeat (first | exact (Kd.N_reads' HO723.out).2.2 | (with_reducible refine Kd.C_alloc ?_ _) | (with_reducible refine Kd.C_drewN ?_ _) | (with_reducible refine Kd.C_drew ?_))); (case side2 => exact (Kd.N_reads' HO723.out).2.1); (case side3 => repeat (first | exact (Kd.N_reads' HO_4.out).2.2 | (with_reducible refine Kd.C_alloc ?_ _) | (with_reducible refine Kd.C_drewN ?_ _) | (with_reducible refine Kd.C_drew ?_))); (case side4 => exact (Kd.N_reads' HO_4.out).2.1); rintro e w' ⟨rfl, ⟨nd, rfl⟩⟩))
                go_ret
                exact ⟨by first | rfl | (simp [errW_none, errW_some] <;> rfl) | (simp [*, errW_none, errW_some] <;> rfl), by repeat (first | (with_reducible first | exact HB.out | apply below_alloc | apply pw_below_drewN | apply below_drew1) | exact HB.out)⟩
            · replace c27 := Bool.eq_false_iff.mpr c27
              subst c27
              have H1 : (some false) = some r := by rw [if_neg (show ¬ (false = true) by decide)] at H; exact H
              clear H
              have H := H1
              clear H1
              obtain rfl := Option.some.inj H
              obtain ⟨Ao44, co44, eo44⟩ := Kd.N_slice HO_4.out
              subst eo44
              go_wp2_with (first | (go_at_call 42; (with_reducible refine (sennitref07_Normal.calls k1 (fun k_ => k_ < w.heap.size) _ _ l0 t717 _ ?side1 A25.out).mono ?_); (case side1 => exact Kd.V_mk HC0.out (Kd.F_below (Kd.C_F k27_heap HR0.out) (by repeat (first | (with_reducible first | exact HB.out | apply below_alloc | apply pw_below_drewN | apply below_drew1) | exact HB.out)))); rintro e w45 ⟨v718, rfl, ho0, hb⟩; have n0_ := Aside0.mk (Kd.N_elder' (by (with_reducible repeat (first | apply Kd.N_alloc | apply Kd.N_drewN | apply Kd.N_drew)); exact HO_4.out) (Kd.N_base ho0) hb); have n1_ := Aside0.mk (Kd.N_lower (Kd.N_mono (ok' := fun k_ => some k_ ≠ (.slice Ao44 t711.length co44 : Value).ownBlock) ho0 (fun k_ hk_ => Or.elim hk_ (fun hs_ => fun e_ => Nat.not_le.2 hs_ (Kd.N_base HO_4.out k_ e_.symm)) (fun hn_ => (Kd.fresh' (Kd.N_lt (by (with_reducible repeat (first | apply Kd.N_alloc | apply Kd.N_drewN | apply Kd.N_drew)); exact HO_4.out)) k_ hn_)))) (below_size (by repeat (first | (with_reducible first | exact HB.out | apply below_alloc | apply pw_below_drewN | apply below_drew1) | exact HB.out)))); have n2_ := Aside0.mk (below_step (by repeat (first | (with_reducible first | exact HB.out | apply below_alloc | apply pw_below_drewN | apply below_drew1) | exact HB.out)) hb); clear HO_4; clear HB; have HO_4 := n0_; have HO719 := n1_; have HB := n2_; clear n0_ n1_ n2_; (try clear hb); (try clear hb2); (try clear hk); (try clear hi); (try clear ho0); obtain ⟨Ao46, co46, eo46⟩ := Kd.N_slice HO719.out; subst eo46) | (go_at_call 34; (with_reducible refine (sennitref07_Same.calls k1 _ _ t711 _ _ t717 false _ ?side1 ?side2 ?side3 ?side4 A26.out).mono ?_); (case side1 => repeat (first | exact (Kd.N_reads' HO_4.out).2.2 | (with_reducible refine Kd.C_alloc ?_ _) | (with_reducible refine Kd.C_drewN ?_ _) | (with_reducible refine Kd.C_drew ?_))); (case side2 => exact (Kd.N_reads' HO_4.out).2.1); (case side3 => repeat (first | exact (Kd.N_reads' HO719.out).2.2 | (with_reducible refine Kd.C_alloc ?_ _) | (with_reducible refine Kd.C_drewN ?_ _) | (with_reducible refine Kd.C_drew ?_))); (case side4 => exact (Kd.N_reads' HO719.out).2.1); rintro e w' ⟨rfl, ⟨nd, rfl⟩⟩))
              go_ret
              exact ⟨by first | rfl | (simp [errW_none, errW_some] <;> rfl) | (simp [*, errW_none, errW_some] <;> rfl), by repeat (first | (with_reducible first | exact HB.out | apply below_alloc | apply pw_below_drewN | apply below_drew1) | exact HB.out)⟩
          · replace c24 := Bool.eq_false_iff.mpr c24
            subst c24
            have H1 : (some false) = some r := by rw [if_neg (show ¬ (false = true) by decide)] at H; exact H
            clear H
            have H := H1
            clear H1
            obtain rfl := Option.some.inj H
            obtain ⟨Ao47, co47, eo47⟩ := Kd.N_slice HO_4.out
            subst eo47
            go_wp2
            go_ret
            exact ⟨by first | rfl | (simp [errW_none, errW_some] <;> rfl) | (simp [*, errW_none, errW_some] <;> rfl), by repeat (first | (with_reducible first | exact HB.out | apply below_alloc | apply pw_below_drewN | apply below_drew1) | exact HB.out)⟩
  · replace c4 := Bool.eq_false_iff.mpr c4
    subst c4
    have H1 : (some t709) = some r := by rw [if_neg (show ¬ (false = true) by decide)] at H; exact H
    clear H
    have H := H1
    clear H1
    obtain rfl := Option.some.inj H
    go_enter Try.func16, Try.ntmps16
    go_wp2_with (first | ((with_reducible refine gate_callee (f := 19) rfl ?_); refine goesL_ (some 6) rfl rfl Try.func19 (by kernel_rfl) rfl #[] rfl (by (try simp only [List.map_toArray, List.map_cons, List.map_nil]); first | done | rfl | (simp only [List.length_drop, List.length_take]; rfl)) ?_; (with_reducible refine (sennitlaw07_awake.calls k  t709 _ A2.out).mono ?_); rintro e w48 ⟨rfl, hb⟩; refine ⟨_, rfl, ?_⟩; have n0_ := Aside0.mk (below_step (by repeat (first | (with_reducible first | exact HB.out | apply below_alloc | apply pw_below_drewN | apply below_drew1) | exact HB.out)) hb); clear HB; have HB := n0_; clear n0_; (try clear hb); (try clear hb2); (try clear hk); (try clear hi)) | ((with_reducible refine gate_callee (f := 32) rfl ?_); refine goesL_ (some 8) rfl rfl Try.func32 (by kernel_rfl) rfl #[.slice A0 l0.length c0] rfl (by (try simp only [List.map_toArray, List.map_cons, List.map_nil]); first | done | rfl | (simp only [List.length_drop, List.length_take]; rfl)) ?_; (with_reducible refine (sennitref07_Few.calls k _ _ l0 false _ ?side1 ?side2 A3.out).mono ?_); (case side1 => repeat (first | exact (Kd.C_below HR0.out HB.out) | (with_reducible refine Kd.C_alloc ?_ _) | (with_reducible refine Kd.C_drewN ?_ _) | (with_reducible refine Kd.C_drew ?_))); (case side2 => exact HC0.out); rintro e w' ⟨rfl, ⟨nd, rfl⟩⟩; refine ⟨_, rfl, ?_⟩))
    go_ret
    exact ⟨by first | rfl | (simp [errW_none, errW_some] <;> rfl) | (simp [*, errW_none, errW_some] <;> rfl), by repeat (first | (with_reducible first | exact HB.out | apply below_alloc | apply pw_below_drewN | apply below_drew1) | exact HB.out)⟩

end Go.Proofs.Ytiaoppikdgoieaa.M
namespace Go.Proofs.Ytiaoppikdgoieaa.Pure
open Go.RowKit Go.Proofs.Ytiaoppikdgoieaa.M Go.Proofs.Ytiaoppikdgoieaa.Hand Go.Proofs.YtiaoppikdgoieaaW.PrintWords Go.Proofs.YtiaoppikdgoieaaW.PrintLast Go.Proofs.YtiaoppikdgoieaaW.PrintMore
set_option linter.unusedVariables false
set_option linter.unusedSimpArgs false

theorem rdT27 (xs : List S27) (i : Nat) (h : i < xs.length) : rd_T27 xs (i : Int) = xs[i] := by
  simp [rd_T27, List.getD_eq_getElem?_getD, h]
/-- A piece of few texts. -/
def SmallP (p : S27) : Prop := Small p.f1 ∧ Small p.f2 ∧ p.f3.length ≤ 6 ∧ ∀ x ∈ p.f3, Small x
/-- A piece as it may come in. -/
def okIn (p : S27) : Prop := p.f1.length ≤ 9223372036854775807 ∧ p.f2.length ≤ 9223372036854775807 ∧ p.f3.length ≤ 9223372036854775807 ∧ ∀ x ∈ p.f3, x.length ≤ 9223372036854775807
theorem few07_l0 (l : List S27) (h1 : l.length ≤ 9223372036854775807) (h2 : ∀ p ∈ l, okIn p) (d : Nat) :
    ∀ i, i ≤ l.length → i ≤ 13 → 13 - i = d → (∀ j x, j < i → l[j]? = some x → SmallP x) →
    ∃ b, (∀ k, 2 * d + 200 ≤ k → sennitref07_Few.l0 k l (i : Int) = some b) ∧ (b = true → l.length ≤ 12 ∧ ∀ x ∈ l, SmallP x) := by
  have fin : ∀ i, i ≤ l.length → ¬ (i < l.length ∧ i < 13) → (∀ j x, j < i → l[j]? = some x → SmallP x) →
      ∃ b, (∀ k, 50 ≤ k → sennitref07_Few.l0 k l (i : Int) = some b) ∧ (b = true → l.length ≤ 12 ∧ ∀ x ∈ l, SmallP x) := by
    intro i hi hn hp
    refine ⟨decide ((l.length : Int) ≤ 12), fun k hk => ?_, fun h => ?_⟩
    · obtain ⟨k, rfl⟩ : ∃ q, k = q + 2 := ⟨k - 2, by omega⟩
      have e : sennitref07_Few.j1 (k + 1) l (i : Int) false = some (decide ((l.length : Int) ≤ 12)) := by
        rw [sennitref07_Few.j1, if_neg (by decide)]
      rw [sennitref07_Few.l0]
      by_cases h : i < l.length
      · rw [if_pos (by omega), decide_eq_false (by omega), e]
      · rw [if_neg (by omega), e]
    · simp only [decide_eq_true_eq] at h
      refine ⟨by omega, fun x hx => ?_⟩
      obtain ⟨j, hj⟩ := List.getElem?_of_mem hx
      have := (List.getElem?_eq_some_iff.1 hj).1
      exact hp j x (by omega) hj
  induction d with
  | zero =>
    intro i hi hi7 hd hp
    obtain ⟨b, h1, h2⟩ := fin i hi (by omega) hp
    exact ⟨b, fun k hk => h1 k (by omega), h2⟩
  | succ d ih =>
    intro i hi hi7 hd hp
    by_cases hc : i < l.length
    · obtain ⟨o1, o2, o3, o4⟩ := h2 _ (List.getElem_mem hc)
      obtain ⟨c, hcc, hC⟩ := few_f (l[i]).f1 20 (by omega) o1
      obtain ⟨e, hee, hE⟩ := few06_f (l[i]).f2 (l[i]).f3 o2 o3 o4
      cases c with
      | true =>
        cases e with
        | true =>
          obtain ⟨b, hb, hB⟩ := ih (i + 1) (by omega) (by omega) (by omega) (fun j x hj hx => by
            by_cases e : j = i
            · subst e
              rw [List.getElem?_eq_getElem hc] at hx
              injection hx with hx
              obtain ⟨q1, q2, q3⟩ := hE rfl
              rw [← hx]; exact ⟨hC rfl, q1, q2, q3⟩
            · exact hp j x (by omega) hx)
          refine ⟨b, fun k hk => ?_, hB⟩
          obtain ⟨k, rfl⟩ : ∃ q, k = q + 2 := ⟨k - 2, by omega⟩
          rw [sennitref07_Few.l0, if_pos (by omega), decide_eq_true (by omega), sennitref07_Few.j1, if_pos rfl, if_pos (by omega), if_pos (by omega), rdT27 _ _ hc, show (20 : Int) = ((20 : Nat) : Int) from rfl, hcc k (by omega), Option.bind_some, if_pos rfl, hee k (by omega), Option.bind_some, if_pos rfl, wrap_succ hc h1]
          exact hb k (by omega)
        | false =>
          refine ⟨false, fun k hk => ?_, fun h => by cases h⟩
          obtain ⟨k, rfl⟩ : ∃ q, k = q + 2 := ⟨k - 2, by omega⟩
          rw [sennitref07_Few.l0, if_pos (by omega), decide_eq_true (by omega), sennitref07_Few.j1, if_pos rfl, if_pos (by omega), if_pos (by omega), rdT27 _ _ hc, show (20 : Int) = ((20 : Nat) : Int) from rfl, hcc k (by omega), Option.bind_some, if_pos rfl, hee k (by omega), Option.bind_some, if_neg (by decide)]
      | false =>
        refine ⟨false, fun k hk => ?_, fun h => by cases h⟩
        obtain ⟨k, rfl⟩ : ∃ q, k = q + 2 := ⟨k - 2, by omega⟩
        rw [sennitref07_Few.l0, if_pos (by omega), decide_eq_true (by omega), sennitref07_Few.j1, if_pos rfl, if_pos (by omega), if_pos (by omega), rdT27 _ _ hc, show (20 : Int) = ((20 : Nat) : Int) from rfl, hcc k (by omega), Option.bind_some, if_neg (by decide)]
    · obtain ⟨b, h1, h2⟩ := fin i hi (by omega) hp
      exact ⟨b, fun k hk => h1 k (by omega), h2⟩
theorem few07_f (l : List S27) (h1 : l.length ≤ 9223372036854775807) (h2 : ∀ p ∈ l, okIn p) :
    ∃ b, (∀ k, 300 ≤ k → sennitref07_Few.f k l = some b) ∧ (b = true → l.length ≤ 12 ∧ ∀ x ∈ l, SmallP x) := by
  obtain ⟨b, hb, hB⟩ := few07_l0 l h1 h2 13 0 (by omega) (by omega) (by omega) (fun j x hj => by omega)
  exact ⟨b, fun k hk => hb k (by omega), hB⟩

theorem sameG_self (a : List S27) : sameG a a = true := (sameP_all a a).2 rfl
theorem sameG_iff (a b : List S27) : sameG a b = true ↔ a = b := sameP_all a b
theorem small_okS {l : List S27} (h1 : l.length ≤ 100000) (h2 : ∀ p ∈ l, p.f3.length ≤ 800 ∧ ∀ x ∈ p.f3, x.length ≤ 800) : okS l :=
  ⟨by omega, fun p hp => ⟨by have := (h2 p hp).1; omega, fun x hx => by have := (h2 p hp).2 x hx; omega⟩⟩
theorem rSame_f (l0 l1 : List S27) (k : Nat) (h1 : l0.length ≤ 100000) (h2 : ∀ p ∈ l0, p.f3.length ≤ 800 ∧ ∀ x ∈ p.f3, x.length ≤ 800) : sennitref07_Same.f k l0 l1 = some (sameG l0 l1) := by
  unfold sennitref07_Same.f; rw [if_pos (small_okS h1 h2)]
theorem pSame_f (l0 l1 : List S27) (k : Nat) (h1 : l0.length ≤ 100000) : pick_Same.f k l0 l1 = some (sameG l0 l1) := by
  unfold pick_Same.f; rw [if_pos (by omega)]
end Go.Proofs.Ytiaoppikdgoieaa.Pure
namespace Go.Proofs.Ytiaoppikdgoieaa.Pure
open Go.RowKit Go.Proofs.Ytiaoppikdgoieaa.M Go.Proofs.Ytiaoppikdgoieaa.Hand Go.Proofs.YtiaoppikdgoieaaW.PrintWords Go.Proofs.YtiaoppikdgoieaaW.PrintLast Go.Proofs.YtiaoppikdgoieaaW.PrintMore
set_option linter.unusedVariables false
set_option linter.unusedSimpArgs false
theorem awake07 (k : Nat) (hk : 1 ≤ k) : sennitlaw07_awake.f k = some true := by
  obtain ⟨k, rfl⟩ : ∃ q, k = q + 1 := ⟨k - 1, by omega⟩
  unfold sennitlaw07_awake.f
  have e1 : othersG [(⟨#[97]⟩ : ByteArray)] [[(⟨#[98]⟩ : ByteArray)], [(⟨#[99]⟩ : ByteArray)]] [] = [[(⟨#[98]⟩ : ByteArray)], [(⟨#[99]⟩ : ByteArray)]] := by decide
  have hp : pick_Piece.f (k + 1) [(⟨#[97]⟩ : ByteArray)] [[(⟨#[98]⟩ : ByteArray)], [(⟨#[99]⟩ : ByteArray)]] 0 false = some (true, [], [(⟨#[97]⟩ : ByteArray)], [[(⟨#[98]⟩ : ByteArray)], [(⟨#[99]⟩ : ByteArray)]]) := by
    unfold pick_Piece.f
    rw [Differing_f _ _ (by decide), Option.bind_some, e1]
    simp [pick_Piece.j0]
  have hn : pick_Normal.f (k + 1) [(⟨false, [(⟨#[120]⟩ : ByteArray)], [], []⟩ : S27), ⟨false, [], [], []⟩, ⟨false, [(⟨#[121]⟩ : ByteArray)], [], []⟩, ⟨true, [], [(⟨#[97]⟩ : ByteArray)], [[(⟨#[98]⟩ : ByteArray)], [(⟨#[99]⟩ : ByteArray)]]⟩] =
      some [(⟨false, [(⟨#[120]⟩ : ByteArray), ⟨#[121]⟩], [], []⟩ : S27), ⟨true, [], [(⟨#[97]⟩ : ByteArray)], [[(⟨#[98]⟩ : ByteArray)], [(⟨#[99]⟩ : ByteArray)]]⟩] := by
    unfold pick_Normal.f
    rw [if_pos ⟨by decide, by decide⟩]
    simp [normG, putG, rd_T27]
  have hc : pick_Choose.f (k + 1) [(⟨false, [(⟨#[120]⟩ : ByteArray), ⟨#[121]⟩], [], []⟩ : S27), ⟨true, [], [(⟨#[97]⟩ : ByteArray)], [[(⟨#[98]⟩ : ByteArray)], [(⟨#[99]⟩ : ByteArray)]]⟩] 2 = some [(⟨#[120]⟩ : ByteArray), ⟨#[121]⟩, ⟨#[99]⟩] := by
    unfold pick_Choose.f
    have : chooseG 2 [(⟨false, [(⟨#[120]⟩ : ByteArray), ⟨#[121]⟩], [], []⟩ : S27), ⟨true, [], [(⟨#[97]⟩ : ByteArray)], [[(⟨#[98]⟩ : ByteArray)], [(⟨#[99]⟩ : ByteArray)]]⟩] = [(⟨#[120]⟩ : ByteArray), ⟨#[121]⟩, ⟨#[99]⟩] := by
      simp [chooseG, chooseP, rd_L1]
    rw [this, if_pos (by decide)]
  rw [hp, Option.bind_some, hn, Option.bind_some, hc, Option.bind_some]
  simp [pick_Clean.f, pick_Same.f, sameG_self, rd_T27, rdOf, ByteArray.toList_eq]
end Go.Proofs.Ytiaoppikdgoieaa.Pure
