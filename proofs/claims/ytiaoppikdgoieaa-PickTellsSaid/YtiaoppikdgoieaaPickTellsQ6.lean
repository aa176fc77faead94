/- Texts of the claim PickTells, put together (part 6): pick.Same: closures by contracts of their own. By a program of this session: a Go function as a Lean function, and that the machine's call does what it says. sennitref07.Same: what it tells, as a Lean function, and that the machine's call does what it says. By a program of this session: a Go function as a Lean function, and that the machine's call does what it says. What the functions of layer 7 tell, with rounds enough. Plain Lean. Layer 7: the awake function. Plain Lean. Layer 7: what becomes of a base, and parts. Plain Lean. -/
import Derived.ArgAppend
import Derived.Below
import Derived.BigQuiet
import Derived.Deep.AppendLies
import Derived.Deep.CutBlock
import Derived.Deep.DeepCutAuto
import Derived.Deep.Draws
import Derived.Deep.LoopGhost
import Derived.Deep.OwnRows
import Derived.Deep.QuietTactic
import Derived.Deep.RegionHeld3
import Derived.KernelRfl
import Derived.Laws.BitsLemmas
import Derived.Laws.BytesArg
import Derived.Laws.EntriesVeiled
import Derived.Laws.IdiomCopy
import Derived.Laws.MakeOwn
import Derived.Laws.OwnMore
import Derived.Laws.Rows
import Derived.Laws.Slices
import Derived.Lib.AppendStr
import Derived.Lib.ConvBytes
import Derived.Maps.AppendAt
import Derived.OrdersHeld
import Derived.OwnWalk
import Derived.RangeFuncBox
import Derived.RowKit
import Derived.RowKit3
import Derived.Tactics
import Derived.Test.YtiaoppikdgoieaaProg
import Derived.Test.YtiaoppikdgoieaaWApart
import Derived.Test.YtiaoppikdgoieaaWArr
import Derived.Test.YtiaoppikdgoieaaWAt
import Derived.Test.YtiaoppikdgoieaaWEqStruct
import Derived.Test.YtiaoppikdgoieaaWFoot
import Derived.Test.YtiaoppikdgoieaaWFootNe
import Derived.Test.YtiaoppikdgoieaaWFour
import Derived.Test.YtiaoppikdgoieaaWGuard
import Derived.Test.YtiaoppikdgoieaaWInv
import Derived.Test.YtiaoppikdgoieaaWInvWords
import Derived.Test.YtiaoppikdgoieaaWKept
import Derived.Test.YtiaoppikdgoieaaWLast
import Derived.Test.YtiaoppikdgoieaaWMore
import Derived.Test.YtiaoppikdgoieaaWN
import Derived.Test.YtiaoppikdgoieaaWNEv
import Derived.Test.YtiaoppikdgoieaaWQPut
import Derived.Test.YtiaoppikdgoieaaWRepsOne
import Derived.Test.YtiaoppikdgoieaaWShare
import Derived.Test.YtiaoppikdgoieaaWTab
import Derived.Test.YtiaoppikdgoieaaWWords
import Derived.Test.YtiaoppikdgoieaaWZeros
import Derived.WalkKit
import Derived.WideLaws
import Derived.Test.YtiaoppikdgoieaaPickTellsQ5
namespace Go.Proofs.Ytiaoppikdgoieaa.M
open Go.RowKit Go.Proofs Go.Proofs.YtiaoppikdgoieaaW.PrintWords Go.Proofs.YtiaoppikdgoieaaW.PrintLast Go.Proofs.YtiaoppikdgoieaaW.PrintMore Go.Proofs.Ytiaoppikdgoieaa.Hand
attribute [local go_sem] Oper.semAt_some
set_option linter.unusedVariables false
set_option linter.unusedSimpArgs false

set_option maxHeartbeats 4000000 in
set_option maxRecDepth 100000 in
theorem equal53_c (w0 : World) (p : Addr) (A0 : Option Addr) (c0 : Nat) (l0 : List S27) (A1 : Option Addr) (c1 : Nat) (l1 : List S27) (hp : w0.cell? p = some (.func (.func 52) #[] #[])) (hpl : p.block < w0.heap.size)
    (hr0 : Kd.C k27 w0 A0 l0.length l0) (hc0 : l0.length ≤ c0) (hr1 : Kd.C k27 w0 A1 l1.length l1) (hc1 : l1.length ≤ c1) (hle : l0.length ≤ 1000000000) :
    Calls Try.prog 53 #[.slice A0 l0.length c0, .slice A1 l1.length c1, .func (.func 54) #[] #[.pointer (some p)]] w0 fun e w' => e = .returned (.bool (decide (l0.length = l1.length) && (List.zipWith sameP l0 l1).all id)) ∧ Below w0.heap.size w0 w' := by
  have HR0 := Aside0.mk hr0
  have HC0 := Aside0.mk hc0
  have HR1 := Aside0.mk hr1
  have HC1 := Aside0.mk hc1
  have HL0 := Aside0.mk hr0.2.1
  have HL1 := Aside0.mk hr1.2.1
  have HP := Aside0.mk hp
  have HPL := Aside0.mk hpl
  have HLE := Aside0.mk hle
  clear hr0 hc0 hr1 hc1 hp hpl hle
  by_cases hlen : l0.length = l1.length
  · have HN := Aside0.mk hlen
    have e1 : ((l0.length : Int) != (l1.length : Int)) = false := by rw [hlen]; simp
    have e2 : (l0.length != l1.length) = false := by rw [hlen]; simp
    clear hlen
    rw [decide_eq_true HN.out, Bool.true_and]
    go_enter Try.func53, Try.ntmps53
    go_wp2
    repeat (go_quiet (fail); try go_wp2)
    go_loopg [17] l0.length (fun kq v17 w' => ∃ i : Nat, v17 = .int .i64 (i : Int) ∧ Aside0 (i ≤ l0.length ∧ kq = l0.length - i) ∧ Aside0 ((List.zipWith sameP (l0.take i) (l1.take i)).all id = true) ∧ Aside0 (Below w0.heap.size w0 w'))
    case atStart => exact ⟨0, rfl, ⟨Nat.zero_le _, rfl⟩, ⟨by simp⟩, ⟨Below.refl _ _⟩⟩
    case round =>
      obtain ⟨i, rfl, HI, HA, HB⟩ := hrel
      have hli := HL0.out
      by_cases c4 : i < l0.length
      · have c4b0 : decide ((i : Int) < (l0.length : Int)) = true := decide_eq_true (by omega)
        have c4b1 : decide (i < l0.length) = true := decide_eq_true c4
        have c5 : i < l1.length := by have := HN.out; omega
        have c5b1 : decide (i < l1.length) = true := decide_eq_true c5
        obtain ⟨z, g0⟩ : ∃ z, l0[i]? = some z := ⟨_, List.getElem?_eq_getElem c4⟩
        obtain ⟨y, g1⟩ : ∃ y, l1[i]? = some y := ⟨_, List.getElem?_eq_getElem c5⟩
        obtain ⟨ad, a1, m1, a2, m2, a3, m3, rfl, hx0, hx1, hx2, hx3, hl1, hi1, hl2, hi2, hl3, hi3⟩ := C_piece HR0.out i z g0
        obtain ⟨ae, b1, n1, b2, n2, b3, n3, rfl, hy0, hy1, hy2, hy3, gl1, gi1, gl2, gi2, gl3, gi3⟩ := C_piece HR1.out i y g1
        have HSN : Aside0 ((List.zipWith sameP (l0.take (i + 1)) (l1.take (i + 1))).all id = sameP z y) := ⟨by
          rw [take_snoc l0 i z g0, take_snoc l1 i y g1, List.zipWith_append (by simp; omega)]
          have := HA.out
          simp [this]⟩
        have HIN : Aside0 (sameP z y = false → (List.zipWith sameP l0 l1).all id = false) := ⟨fun e => by
          cases hq : (List.zipWith sameP l0 l1).all id with
          | false => rfl
          | true =>
            have := List.all_eq_true.1 hq (sameP z y) (by
              refine List.mem_of_getElem? (i := i) ?_
              rw [List.getElem?_zipWith, g0, g1])
            rw [e] at this
            exact absurd this (by decide)⟩
        have HX0 := Aside0.mk hx0
        have HX1 := Aside0.mk hx1
        have HX2 := Aside0.mk hx2
        have HX3 := Aside0.mk hx3
        have HY0 := Aside0.mk hy0
        have HY1 := Aside0.mk hy1
        have HY2 := Aside0.mk hy2
        have HY3 := Aside0.mk hy3
        have T1 := Aside0.mk hi1
        have T2 := Aside0.mk hi2
        have T3 := Aside0.mk hi3
        have U1 := Aside0.mk gi1
        have U2 := Aside0.mk gi2
        have U3 := Aside0.mk gi3
        have k0 := (HB.out.cell (World.block_lt_of_cell? w0 _ hx0)).trans hx0
        have k1 := (HB.out.cell (World.block_lt_of_cell? w0 _ hx1)).trans hx1
        have k2 := (HB.out.cell (World.block_lt_of_cell? w0 _ hx2)).trans hx2
        have k3 := (HB.out.cell (World.block_lt_of_cell? w0 _ hx3)).trans hx3
        have hB1 : Below w0.heap.size w0 (wr.alloc (.cells #[.bool z.f0, .slice a1 z.f1.length m1, .slice a2 z.f2.length m2, .slice a3 z.f3.length m3] 27)) := below_alloc HB.out _
        have j0 := (hB1.cell (World.block_lt_of_cell? w0 _ hy0)).trans hy0
        have j1 := (hB1.cell (World.block_lt_of_cell? w0 _ hy1)).trans hy1
        have j2 := (hB1.cell (World.block_lt_of_cell? w0 _ hy2)).trans hy2
        have j3 := (hB1.cell (World.block_lt_of_cell? w0 _ hy3)).trans hy3
        have W1b := Aside0.mk hB1
        clear hi1 hi2 hi3 gi1 gi2 gi3 g0 g1 hx0 hx1 hx2 hx3 hy0 hy1 hy2 hy3 hB1
        clear hli
        cases hs : sameP z y with
        | true =>
          rw [hs] at HSN
          have HS := Aside0.mk hs
          clear hs HIN
          go_wp2_with (go_at_call 54; (with_reducible refine (same54_c _ p z.f0 y.f0 z.f1 y.f1 z.f2 y.f2 z.f3 y.f3 a1 a2 a3 b1 b2 b3 m1 m2 m3 n1 n2 n3 ?hp ?hpl ?ha1 hl1 ?ha2 hl2 ?ha3 hl3 ?he1 gl1 ?he2 gl2 ?he3 gl3).mono ?_); (case hp => exact ((below_alloc W1b.out _).cell HPL.out).trans HP.out); (case hpl => exact Nat.lt_of_lt_of_le HPL.out (below_size (below_alloc W1b.out _))); (case ha1 => exact Kd.C_below T1.out (below_alloc W1b.out _)); (case ha2 => exact Kd.C_below T2.out (below_alloc W1b.out _)); (case ha3 => exact Kd.C_below T3.out (below_alloc W1b.out _)); (case he1 => exact Kd.C_below U1.out (below_alloc W1b.out _)); (case he2 => exact Kd.C_below U2.out (below_alloc W1b.out _)); (case he3 => exact Kd.C_below U3.out (below_alloc W1b.out _)); rintro e w' ⟨he, hb⟩; replace he : e = .returned (.bool true) := he.trans (by rw [show sameP ⟨z.f0, z.f1, z.f2, z.f3⟩ ⟨y.f0, y.f1, y.f2, y.f3⟩ = true from HS.out]); subst he; have n1_ := Aside0.mk (below_step (below_alloc W1b.out _) hb); clear hb)
          go_roundg (l0.length - (i + 1))
          case measure => have := HI.out; omega
          case rel => exact ⟨i + 1, by have := HI.out; have := HLE.out; first | rfl | (simp; unfold wrap64; omega), ⟨by omega, rfl⟩, ⟨HSN.out⟩, n1_⟩
        | false =>
          have HS := Aside0.mk hs
          have HIN2 := Aside0.mk (HIN.out hs)
          clear hs HIN
          go_wp2_with (go_at_call 54; (with_reducible refine (same54_c _ p z.f0 y.f0 z.f1 y.f1 z.f2 y.f2 z.f3 y.f3 a1 a2 a3 b1 b2 b3 m1 m2 m3 n1 n2 n3 ?hp ?hpl ?ha1 hl1 ?ha2 hl2 ?ha3 hl3 ?he1 gl1 ?he2 gl2 ?he3 gl3).mono ?_); (case hp => exact ((below_alloc W1b.out _).cell HPL.out).trans HP.out); (case hpl => exact Nat.lt_of_lt_of_le HPL.out (below_size (below_alloc W1b.out _))); (case ha1 => exact Kd.C_below T1.out (below_alloc W1b.out _)); (case ha2 => exact Kd.C_below T2.out (below_alloc W1b.out _)); (case ha3 => exact Kd.C_below T3.out (below_alloc W1b.out _)); (case he1 => exact Kd.C_below U1.out (below_alloc W1b.out _)); (case he2 => exact Kd.C_below U2.out (below_alloc W1b.out _)); (case he3 => exact Kd.C_below U3.out (below_alloc W1b.out _)); rintro e w' ⟨he, hb⟩; replace he : e = .returned (.bool false) := he.trans (by rw [show sameP ⟨z.f0, z.f1, z.f2, z.f3⟩ ⟨y.f0, y.f1, y.f2, y.f3⟩ = false from HS.out]); subst he; have n1_ := Aside0.mk (below_step (below_alloc W1b.out _) hb); clear hb)
          go_ret
          exact ⟨by rw [HIN2.out]; rfl, n1_.out⟩
      · have c4b0 : decide ((i : Int) < (l0.length : Int)) = false := decide_eq_false (by omega)
        have c4b1 : decide (i < l0.length) = false := decide_eq_false c4
        have HQ : Aside0 ((List.zipWith sameP l0 l1).all id = true) := ⟨by
          have := HA.out
          rwa [List.take_of_length_le (by omega), List.take_of_length_le (by have := HN.out; omega)] at this⟩
        go_wp2
        repeat (go_quiet (fail); try go_wp2)
        go_ret
        exact ⟨by rw [HQ.out]; rfl, HB.out⟩
  · have HN := Aside0.mk hlen
    have e1 : ((l0.length : Int) != (l1.length : Int)) = true := bne_iff_ne.mpr (by omega)
    have e2 : (l0.length != l1.length) = true := bne_iff_ne.mpr hlen
    clear hlen
    rw [decide_eq_false HN.out, Bool.false_and]
    go_enter Try.func53, Try.ntmps53
    go_wp2
    repeat (go_quiet (fail); try go_wp2)
    go_ret
    exact ⟨rfl, Below.refl _ _⟩

theorem sameP_all (a b : List S27) : (decide (a.length = b.length) && (List.zipWith sameP a b).all id) = true ↔ a = b := by
  induction a generalizing b with
  | nil => cases b <;> simp
  | cons x t ih =>
    cases b with
    | nil => simp
    | cons y u =>
      have := ih u
      simp only [Bool.and_eq_true, decide_eq_true_eq] at this
      simp only [List.length_cons, List.zipWith_cons_cons, List.all_cons, id_eq, Bool.and_eq_true, decide_eq_true_eq, List.cons.injEq, sameP_iff, ← this, Nat.add_right_cancel_iff]
      constructor
      · rintro ⟨h1, h2, h3⟩; exact ⟨h2, h1, h3⟩
      · rintro ⟨h1, h2, h3⟩; exact ⟨h2, h1, h3⟩
def sameG (a b : List S27) : Bool := decide (a.length = b.length) && (List.zipWith sameP a b).all id
def pick_Same.f (k : Nat) (l0 l1 : List S27) : Option Bool := if l0.length ≤ 1000000000 then some (sameG l0 l1) else none
theorem pick_Same.mono : ∀ a0 a1 k, LeO (pick_Same.f k a0 a1) (pick_Same.f (k + 1) a0 a1) := fun _ _ _ => LeO.refl _
set_option maxHeartbeats 1000000 in
theorem pick_Same.calls (k : Nat) (A0 : Option Addr) (c0 : Nat) (l0 : List S27) (A1 : Option Addr) (c1 : Nat) (l1 : List S27) (r : Bool) (w : World) (hr0 : Kd.C k27 w A0 l0.length l0) (hc0 : l0.length ≤ c0) (hr1 : Kd.C k27 w A1 l1.length l1) (hc1 : l1.length ≤ c1) (h : pick_Same.f k l0 l1 = some r) :
    Calls Try.prog 33 #[.slice A0 l0.length c0, .slice A1 l1.length c1] w fun e w' => e = .returned (.bool r) ∧ Below w.heap.size w w' := by
  unfold pick_Same.f at h
  by_cases hb : l0.length ≤ 1000000000
  · rw [if_pos hb] at h
    obtain rfl := Option.some.inj h
    have HC := Aside0.mk (equal53_c (w.alloc (.cells #[.func (.func 52) #[] #[]] 33)) ⟨w.heap.size, 0, none⟩ A0 c0 l0 A1 c1 l1 (cell_new _ _ _) (by simp) (Kd.C_alloc hr0 _) hc0 (Kd.C_alloc hr1 _) hc1 hb)
    have HB := Aside0.mk (below_alloc (Below.refl w.heap.size w) (.cells #[.func (.func 52) #[] #[]] 33))
    clear hr0 hc0 hr1 hc1 hb h
    show Calls Try.prog 33 _ w fun e w' => e = .returned (.bool (decide (l0.length = l1.length) && (List.zipWith sameP l0 l1).all id)) ∧ Below w.heap.size w w'
    generalize (decide (l0.length = l1.length) && (List.zipWith sameP l0 l1).all id) = b at HC ⊢
    go_enter Try.func33, Try.ntmps33
    go_wp2_with (go_at_call 53; (with_reducible refine HC.out.mono ?_); rintro e w' ⟨rfl, hb⟩; have HB2 := Aside0.mk (HB.out.trans (hb.mono (by simp))); clear hb)
    go_ret
    exact ⟨rfl, HB2.out⟩
  · rw [if_neg hb] at h
    exact absurd h (by simp)
end Go.Proofs.Ytiaoppikdgoieaa.M
namespace Go.Proofs.Ytiaoppikdgoieaa.M
open Go.RowKit Go.Proofs.YtiaoppikdgoieaaW.PrintWords Go.Proofs.YtiaoppikdgoieaaW.PrintLast Go.Proofs.YtiaoppikdgoieaaW.PrintMore Go.Proofs.Ytiaoppikdgoieaa.Hand
attribute [local go_sem] max2_int min2_int max_two min_two max_three min_three max_four min_four
set_option linter.unusedVariables false
set_option linter.unusedSimpArgs false

/-! ### sennitlaw07_awake: function 19 -/
def sennitlaw07_awake.f (k : Nat)  : Option (Bool) := (pick_Piece.f k (([(⟨#[97]⟩ : ByteArray)] : List ByteArray)) (([(([(⟨#[98]⟩ : ByteArray)] : List ByteArray)), (([(⟨#[99]⟩ : ByteArray)] : List ByteArray))] : List (List ByteArray))) 0 false).bind fun bt137 => ((pick_Normal.f k (([(⟨false, (([(⟨#[120]⟩ : ByteArray)] : List ByteArray)), ([] : List ByteArray), ([] : List (List ByteArray))⟩ : S27), (⟨false, ([] : List ByteArray), ([] : List ByteArray), ([] : List (List ByteArray))⟩ : S27), (⟨false, (([(⟨#[121]⟩ : ByteArray)] : List ByteArray)), ([] : List ByteArray), ([] : List (List ByteArray))⟩ : S27), (⟨bt137.1, bt137.2.1, bt137.2.2.1, bt137.2.2.2⟩ : S27)] : List (S27)))).bind fun t157 => ((pick_Choose.f k t157 2).bind fun t160 => (if bt137.1 = true then (if (bt137.2.2.2.length : Int) = 2 then (if (t157.length : Int) = 2 then (if 0 < (t157.length : Int) then (if (((rd_T27 t157 0).f1).length : Int) = 2 then ((pick_Clean.f k t157).bind fun t164 => (if t164 = true then (none) else (if (t160.length : Int) = 3 then (if 2 < (t160.length : Int) then (if (rdOf ByteArray.empty t160 2).toList = ([99] : List UInt8) then ((pick_Same.f k t157 t157).bind fun t166 => (some t166)) else (none)) else (none)) else (none)))) else (none)) else (none)) else (none)) else (none)) else (none))))
theorem sennitlaw07_awake.mono : ∀ k, LeO (sennitlaw07_awake.f k ) (sennitlaw07_awake.f (k + 1) ) := by
  intro  k
  unfold sennitlaw07_awake.f
  repeat' first
      | (with_reducible exact pick_Choose.mono _ _ _)
      | (with_reducible exact pick_Clean.mono _ _)
      | (with_reducible exact pick_Normal.mono _ _)
      | (with_reducible exact pick_Piece.mono _ _ _ _ _)
      | (with_reducible exact pick_Same.mono _ _ _)
      | (with_reducible exact LeO.refl _)
      | (with_reducible exact LeO.none _)
      | (with_reducible refine LeO.ite ?_ ?_)
      | (with_reducible refine LeO.bind ?_ (fun _ => ?_))
      | exact pick_Choose.mono _ _ _
      | exact pick_Clean.mono _ _
      | exact pick_Normal.mono _ _
      | exact pick_Piece.mono _ _ _ _ _
      | exact pick_Same.mono _ _ _
      | exact LeO.none _
      | refine LeO.ite ?_ ?_
      | refine LeO.bind ?_ (fun _ => ?_)
set_option maxHeartbeats 8000000 in
set_option maxRecDepth 100000 in
theorem sennitlaw07_awake.calls (k : Nat)  (r : Bool) (w : World) (h : sennitlaw07_awake.f k  = some r) :
    Calls Try.prog 19 #[] w fun e w' => e = .returned (.bool r) ∧ Below w.heap.size w w' := by
  have hu30 := Try.underlying30
  have hu27 := Try.underlying27
  have HB := am (Below.refl w.heap.size w)
  have H : ((pick_Piece.f k (([(⟨#[97]⟩ : ByteArray)] : List ByteArray)) (([(([(⟨#[98]⟩ : ByteArray)] : List ByteArray)), (([(⟨#[99]⟩ : ByteArray)] : List ByteArray))] : List (List ByteArray))) 0 false).bind fun bt137 => ((pick_Normal.f k (([(⟨false, (([(⟨#[120]⟩ : ByteArray)] : List ByteArray)), ([] : List ByteArray), ([] : List (List ByteArray))⟩ : S27), (⟨false, ([] : List ByteArray), ([] : List ByteArray), ([] : List (List ByteArray))⟩ : S27), (⟨false, (([(⟨#[121]⟩ : ByteArray)] : List ByteArray)), ([] : List ByteArray), ([] : List (List ByteArray))⟩ : S27), (⟨bt137.1, bt137.2.1, bt137.2.2.1, bt137.2.2.2⟩ : S27)] : List (S27)))).bind fun t157 => ((pick_Choose.f k t157 2).bind fun t160 => (if bt137.1 = true then (if (bt137.2.2.2.length : Int) = 2 then (if (t157.length : Int) = 2 then (if 0 < (t157.length : Int) then (if (((rd_T27 t157 0).f1).length : Int) = 2 then ((pick_Clean.f k t157).bind fun t164 => (if t164 = true then (none) else (if (t160.length : Int) = 3 then (if 2 < (t160.length : Int) then (if (rdOf ByteArray.empty t160 2).toList = ([99] : List UInt8) then ((pick_Same.f k t157 t157).bind fun t166 => (some t166)) else (none)) else (none)) else (none)))) else (none)) else (none)) else (none)) else (none)) else (none))))) = some r := h
  clear h
  obtain ⟨y125, hy125⟩ : ∃ y_ : List ByteArray, y_ = (([(⟨#[97]⟩ : ByteArray)] : List ByteArray)) := ⟨_, rfl⟩
  replace H : ((pick_Piece.f k y125 (([(([(⟨#[98]⟩ : ByteArray)] : List ByteArray)), (([(⟨#[99]⟩ : ByteArray)] : List ByteArray))] : List (List ByteArray))) 0 false).bind fun bt137 => ((pick_Normal.f k (([(⟨false, (([(⟨#[120]⟩ : ByteArray)] : List ByteArray)), ([] : List ByteArray), ([] : List (List ByteArray))⟩ : S27), (⟨false, ([] : List ByteArray), ([] : List ByteArray), ([] : List (List ByteArray))⟩ : S27), (⟨false, (([(⟨#[121]⟩ : ByteArray)] : List ByteArray)), ([] : List ByteArray), ([] : List (List ByteArray))⟩ : S27), (⟨bt137.1, bt137.2.1, bt137.2.2.1, bt137.2.2.2⟩ : S27)] : List (S27)))).bind fun t157 => ((pick_Choose.f k t157 2).bind fun t160 => (if bt137.1 = true then (if (bt137.2.2.2.length : Int) = 2 then (if (t157.length : Int) = 2 then (if 0 < (t157.length : Int) then (if (((rd_T27 t157 0).f1).length : Int) = 2 then ((pick_Clean.f k t157).bind fun t164 => (if t164 = true then (none) else (if (t160.length : Int) = 3 then (if 2 < (t160.length : Int) then (if (rdOf ByteArray.empty t160 2).toList = ([99] : List UInt8) then ((pick_Same.f k t157 t157).bind fun t166 => (some t166)) else (none)) else (none)) else (none)))) else (none)) else (none)) else (none)) else (none)) else (none))))) = some r := by first | (rw [hy125]; with_reducible exact H) | (have H2_ := (Option.bind_some _ _).symm.trans H; rw [hy125]; with_reducible exact H2_) | (have H2_ := (Option.bind_some _ _).symm.trans H; with_reducible exact H2_) | with_reducible exact H | (rw [hy125]; exact H) | exact H
  have Ny125 := am hy125
  clear hy125
  obtain ⟨y128, hy128⟩ : ∃ y_ : List ByteArray, y_ = (([(⟨#[98]⟩ : ByteArray)] : List ByteArray)) := ⟨_, rfl⟩
  replace H : ((pick_Piece.f k y125 (([y128, (([(⟨#[99]⟩ : ByteArray)] : List ByteArray))] : List (List ByteArray))) 0 false).bind fun bt137 => ((pick_Normal.f k (([(⟨false, (([(⟨#[120]⟩ : ByteArray)] : List ByteArray)), ([] : List ByteArray), ([] : List (List ByteArray))⟩ : S27), (⟨false, ([] : List ByteArray), ([] : List ByteArray), ([] : List (List ByteArray))⟩ : S27), (⟨false, (([(⟨#[121]⟩ : ByteArray)] : List ByteArray)), ([] : List ByteArray), ([] : List (List ByteArray))⟩ : S27), (⟨bt137.1, bt137.2.1, bt137.2.2.1, bt137.2.2.2⟩ : S27)] : List (S27)))).bind fun t157 => ((pick_Choose.f k t157 2).bind fun t160 => (if bt137.1 = true then (if (bt137.2.2.2.length : Int) = 2 then (if (t157.length : Int) = 2 then (if 0 < (t157.length : Int) then (if (((rd_T27 t157 0).f1).length : Int) = 2 then ((pick_Clean.f k t157).bind fun t164 => (if t164 = true then (none) else (if (t160.length : Int) = 3 then (if 2 < (t160.length : Int) then (if (rdOf ByteArray.empty t160 2).toList = ([99] : List UInt8) then ((pick_Same.f k t157 t157).bind fun t166 => (some t166)) else (none)) else (none)) else (none)))) else (none)) else (none)) else (none)) else (none)) else (none))))) = some r := by first | (rw [hy128]; with_reducible exact H) | (have H2_ := (Option.bind_some _ _).symm.trans H; rw [hy128]; with_reducible exact H2_) | (have H2_ := (Option.bind_some _ _).symm.trans H; with_reducible exact H2_) | with_reducible exact H | (rw [hy128]; exact H) | exact H
  have Ny128 := am hy128
  clear hy128
  obtain ⟨y131, hy131⟩ : ∃ y_ : List ByteArray, y_ = (([(⟨#[99]⟩ : ByteArray)] : List ByteArray)) := ⟨_, rfl⟩
  replace H : ((pick_Piece.f k y125 (([y128, y131] : List (List ByteArray))) 0 false).bind fun bt137 => ((pick_Normal.f k (([(⟨false, (([(⟨#[120]⟩ : ByteArray)] : List ByteArray)), ([] : List ByteArray), ([] : List (List ByteArray))⟩ : S27), (⟨false, ([] : List ByteArray), ([] : List ByteArray), ([] : List (List ByteArray))⟩ : S27), (⟨false, (([(⟨#[121]⟩ : ByteArray)] : List ByteArray)), ([] : List ByteArray), ([] : List (List ByteArray))⟩ : S27), (⟨bt137.1, bt137.2.1, bt137.2.2.1, bt137.2.2.2⟩ : S27)] : List (S27)))).bind fun t157 => ((pick_Choose.f k t157 2).bind fun t160 => (if bt137.1 = true then (if (bt137.2.2.2.length : Int) = 2 then (if (t157.length : Int) = 2 then (if 0 < (t157.length : Int) then (if (((rd_T27 t157 0).f1).length : Int) = 2 then ((pick_Clean.f k t157).bind fun t164 => (if t164 = true then (none) else (if (t160.length : Int) = 3 then (if 2 < (t160.length : Int) then (if (rdOf ByteArray.empty t160 2).toList = ([99] : List UInt8) then ((pick_Same.f k t157 t157).bind fun t166 => (some t166)) else (none)) else (none)) else (none)))) else (none)) else (none)) else (none)) else (none)) else (none))))) = some r := by first | (rw [hy131]; with_reducible exact H) | (have H2_ := (Option.bind_some _ _).symm.trans H; rw [hy131]; with_reducible exact H2_) | (have H2_ := (Option.bind_some _ _).symm.trans H; with_reducible exact H2_) | with_reducible exact H | (rw [hy131]; exact H) | exact H
  have Ny131 := am hy131
  clear hy131
  obtain ⟨y134, hy134⟩ : ∃ y_ : List (List ByteArray), y_ = (([y128, y131] : List (List ByteArray))) := ⟨_, rfl⟩
  replace H : ((pick_Piece.f k y125 y134 0 false).bind fun bt137 => ((pick_Normal.f k (([(⟨false, (([(⟨#[120]⟩ : ByteArray)] : List ByteArray)), ([] : List ByteArray), ([] : List (List ByteArray))⟩ : S27), (⟨false, ([] : List ByteArray), ([] : List ByteArray), ([] : List (List ByteArray))⟩ : S27), (⟨false, (([(⟨#[121]⟩ : ByteArray)] : List ByteArray)), ([] : List ByteArray), ([] : List (List ByteArray))⟩ : S27), (⟨bt137.1, bt137.2.1, bt137.2.2.1, bt137.2.2.2⟩ : S27)] : List (S27)))).bind fun t157 => ((pick_Choose.f k t157 2).bind fun t160 => (if bt137.1 = true then (if (bt137.2.2.2.length : Int) = 2 then (if (t157.length : Int) = 2 then (if 0 < (t157.length : Int) then (if (((rd_T27 t157 0).f1).length : Int) = 2 then ((pick_Clean.f k t157).bind fun t164 => (if t164 = true then (none) else (if (t160.length : Int) = 3 then (if 2 < (t160.length : Int) then (if (rdOf ByteArray.empty t160 2).toList = ([99] : List UInt8) then ((pick_Same.f k t157 t157).bind fun t166 => (some t166)) else (none)) else (none)) else (none)))) else (none)) else (none)) else (none)) else (none)) else (none))))) = some r := by first | (rw [hy134]; with_reducible exact H) | (have H2_ := (Option.bind_some _ _).symm.trans H; rw [hy134]; with_reducible exact H2_) | (have H2_ := (Option.bind_some _ _).symm.trans H; with_reducible exact H2_) | with_reducible exact H | (rw [hy134]; exact H) | exact H
  have Ny134 := am hy134
  clear hy134
  replace H := Option.bind_eq_some_iff.mp H
  obtain ⟨⟨t137, t138, t141, t144⟩, A10, H⟩ := H
  replace H : ((pick_Normal.f k (([(⟨false, (([(⟨#[120]⟩ : ByteArray)] : List ByteArray)), ([] : List ByteArray), ([] : List (List ByteArray))⟩ : S27), (⟨false, ([] : List ByteArray), ([] : List ByteArray), ([] : List (List ByteArray))⟩ : S27), (⟨false, (([(⟨#[121]⟩ : ByteArray)] : List ByteArray)), ([] : List ByteArray), ([] : List (List ByteArray))⟩ : S27), (⟨t137, t138, t141, t144⟩ : S27)] : List (S27)))).bind fun t157 => ((pick_Choose.f k t157 2).bind fun t160 => (if t137 = true then (if (t144.length : Int) = 2 then (if (t157.length : Int) = 2 then (if 0 < (t157.length : Int) then (if (((rd_T27 t157 0).f1).length : Int) = 2 then ((pick_Clean.f k t157).bind fun t164 => (if t164 = true then (none) else (if (t160.length : Int) = 3 then (if 2 < (t160.length : Int) then (if (rdOf ByteArray.empty t160 2).toList = ([99] : List UInt8) then ((pick_Same.f k t157 t157).bind fun t166 => (some t166)) else (none)) else (none)) else (none)))) else (none)) else (none)) else (none)) else (none)) else (none)))) = some r := H
  have A1 := am A10
  clear A10
  obtain ⟨y148, hy148⟩ : ∃ y_ : List ByteArray, y_ = (([(⟨#[120]⟩ : ByteArray)] : List ByteArray)) := ⟨_, rfl⟩
  replace H : ((pick_Normal.f k (([(⟨false, y148, ([] : List ByteArray), ([] : List (List ByteArray))⟩ : S27), (⟨false, ([] : List ByteArray), ([] : List ByteArray), ([] : List (List ByteArray))⟩ : S27), (⟨false, (([(⟨#[121]⟩ : ByteArray)] : List ByteArray)), ([] : List ByteArray), ([] : List (List ByteArray))⟩ : S27), (⟨t137, t138, t141, t144⟩ : S27)] : List (S27)))).bind fun t157 => ((pick_Choose.f k t157 2).bind fun t160 => (if t137 = true then (if (t144.length : Int) = 2 then (if (t157.length : Int) = 2 then (if 0 < (t157.length : Int) then (if (((rd_T27 t157 0).f1).length : Int) = 2 then ((pick_Clean.f k t157).bind fun t164 => (if t164 = true then (none) else (if (t160.length : Int) = 3 then (if 2 < (t160.length : Int) then (if (rdOf ByteArray.empty t160 2).toList = ([99] : List UInt8) then ((pick_Same.f k t157 t157).bind fun t166 => (some t166)) else (none)) else (none)) else (none)))) else (none)) else (none)) else (none)) else (none)) else (none)))) = some r := by first | (rw [hy148]; with_reducible exact H) | (have H2_ := (Option.bind_some _ _).symm.trans H; rw [hy148]; with_reducible exact H2_) | (have H2_ := (Option.bind_some _ _).symm.trans H; with_reducible exact H2_) | with_reducible exact H | (rw [hy148]; exact H) | exact H
  have Ny148 := am hy148
  clear hy148
  obtain ⟨y151, hy151⟩ : ∃ y_ : List ByteArray, y_ = (([(⟨#[121]⟩ : ByteArray)] : List ByteArray)) := ⟨_, rfl⟩
  replace H : ((pick_Normal.f k (([(⟨false, y148, ([] : List ByteArray), ([] : List (List ByteArray))⟩ : S27), (⟨false, ([] : List ByteArray), ([] : List ByteArray), ([] : List (List ByteArray))⟩ : S27), (⟨false, y151, ([] : List ByteArray), ([] : List (List ByteArray))⟩ : S27), (⟨t137, t138, t141, t144⟩ : S27)] : List (S27)))).bind fun t157 => ((pick_Choose.f k t157 2).bind fun t160 => (if t137 = true then (if (t144.length : Int) = 2 then (if (t157.length : Int) = 2 then (if 0 < (t157.length : Int) then (if (((rd_T27 t157 0).f1).length : Int) = 2 then ((pick_Clean.f k t157).bind fun t164 => (if t164 = true then (none) else (if (t160.length : Int) = 3 then (if 2 < (t160.length : Int) then (if (rdOf ByteArray.empty t160 2).toList = ([99] : List UInt8) then ((pick_Same.f k t157 t157).bind fun t166 => (some t166)) else (none)) else (none)) else (none)))) else (none)) else (none)) else (none)) else (none)) else (none)))) = some r := by first | (rw [hy151]; with_reducible exact H) | (have H2_ := (Option.bind_some _ _).symm.trans H; rw [hy151]; with_reducible exact H2_) | (have H2_ := (Option.bind_some _ _).symm.trans H; with_reducible exact H2_) | with_reducible exact H | (rw [hy151]; exact H) | exact H
  have Ny151 := am hy151
  clear hy151
  obtain ⟨y154, hy154⟩ : ∃ y_ : List (S27), y_ = (([(⟨false, y148, ([] : List ByteArray), ([] : List (List ByteArray))⟩ : S27), (⟨false, ([] : List ByteArray), ([] : List ByteArray), ([] : List (List ByteArray))⟩ : S27), (⟨false, y151, ([] : List ByteArray), ([] : List (List ByteArray))⟩ : S27), (⟨t137, t138, t141, t144⟩ : S27)] : List (S27))) := ⟨_, rfl⟩
  replace H : ((pick_Normal.f k y154).bind fun t157 => ((pick_Choose.f k t157 2).bind fun t160 => (if t137 = true then (if (t144.length : Int) = 2 then (if (t157.length : Int) = 2 then (if 0 < (t157.length : Int) then (if (((rd_T27 t157 0).f1).length : Int) = 2 then ((pick_Clean.f k t157).bind fun t164 => (if t164 = true then (none) else (if (t160.length : Int) = 3 then (if 2 < (t160.length : Int) then (if (rdOf ByteArray.empty t160 2).toList = ([99] : List UInt8) then ((pick_Same.f k t157 t157).bind fun t166 => (some t166)) else (none)) else (none)) else (none)))) else (none)) else (none)) else (none)) else (none)) else (none)))) = some r := by first | (rw [hy154]; with_reducible exact H) | (have H2_ := (Option.bind_some _ _).symm.trans H; rw [hy154]; with_reducible exact H2_) | (have H2_ := (Option.bind_some _ _).symm.trans H; with_reducible exact H2_) | with_reducible exact H | (rw [hy154]; exact H) | exact H
  have Ny154 := am hy154
  clear hy154
  replace H := Option.bind_eq_some_iff.mp H
  obtain ⟨t157, A20, H⟩ := H
  replace H : ((pick_Choose.f k t157 2).bind fun t160 => (if t137 = true then (if (t144.length : Int) = 2 then (if (t157.length : Int) = 2 then (if 0 < (t157.length : Int) then (if (((rd_T27 t157 0).f1).length : Int) = 2 then ((pick_Clean.f k t157).bind fun t164 => (if t164 = true then (none) else (if (t160.length : Int) = 3 then (if 2 < (t160.length : Int) then (if (rdOf ByteArray.empty t160 2).toList = ([99] : List UInt8) then ((pick_Same.f k t157 t157).bind fun t166 => (some t166)) else (none)) else (none)) else (none)))) else (none)) else (none)) else (none)) else (none)) else (none))) = some r := H
  have A2 := am A20
  clear A20
  replace H := Option.bind_eq_some_iff.mp H
  obtain ⟨t160, A30, H⟩ := H
  replace H : (if t137 = true then (if (t144.length : Int) = 2 then (if (t157.length : Int) = 2 then (if 0 < (t157.length : Int) then (if (((rd_T27 t157 0).f1).length : Int) = 2 then ((pick_Clean.f k t157).bind fun t164 => (if t164 = true then (none) else (if (t160.length : Int) = 3 then (if 2 < (t160.length : Int) then (if (rdOf ByteArray.empty t160 2).toList = ([99] : List UInt8) then ((pick_Same.f k t157 t157).bind fun t166 => (some t166)) else (none)) else (none)) else (none)))) else (none)) else (none)) else (none)) else (none)) else (none)) = some r := H
  have A3 := am A30
  clear A30
  by_cases c4 : t137 = true
  · subst c4
    have H1 : (if (t144.length : Int) = 2 then (if (t157.length : Int) = 2 then (if 0 < (t157.length : Int) then (if (((rd_T27 t157 0).f1).length : Int) = 2 then ((pick_Clean.f k t157).bind fun t164 => (if t164 = true then (none) else (if (t160.length : Int) = 3 then (if 2 < (t160.length : Int) then (if (rdOf ByteArray.empty t160 2).toList = ([99] : List UInt8) then ((pick_Same.f k t157 t157).bind fun t166 => (some t166)) else (none)) else (none)) else (none)))) else (none)) else (none)) else (none)) else (none)) = some r := by rw [if_pos rfl] at H; exact H
    clear H
    have H := H1
    clear H1
    by_cases c5 : (t144.length : Int) = 2
    · rw [if_pos c5] at H
      have c5b0 : ((t144.length : Int) == 2) = true := beq_iff_eq.mpr c5
      have c5b1 : ((t144.length : Int) != 2) = false := bne_eq_false_iff_eq.mpr c5
      clear c5
      by_cases c6 : (t157.length : Int) = 2
      · rw [if_pos c6] at H
        have c6b0 : ((t157.length : Int) == 2) = true := beq_iff_eq.mpr c6
        have c6b1 : ((t157.length : Int) != 2) = false := bne_eq_false_iff_eq.mpr c6
        clear c6
        by_cases c7 : 0 < (t157.length : Int)
        · rw [if_pos c7] at H
          have c7b0 : decide (0 < (t157.length : Int)) = true := decide_eq_true c7
          have c7b1 : decide (0 < t157.length) = true := decide_eq_true (by omega)
          clear c7
          by_cases c8 : (((rd_T27 t157 0).f1).length : Int) = 2
          · rw [if_pos c8] at H
            have c8b0 : ((((rd_T27 t157 0).f1).length : Int) == 2) = true := beq_iff_eq.mpr c8
            have c8b1 : ((((rd_T27 t157 0).f1).length : Int) != 2) = false := bne_eq_false_iff_eq.mpr c8
            clear c8
            replace H := Option.bind_eq_some_iff.mp H
            obtain ⟨t164, A90, H⟩ := H
            replace H : (if t164 = true then (none) else (if (t160.length : Int) = 3 then (if 2 < (t160.length : Int) then (if (rdOf ByteArray.empty t160 2).toList = ([99] : List UInt8) then ((pick_Same.f k t157 t157).bind fun t166 => (some t166)) else (none)) else (none)) else (none))) = some r := H
            have A9 := am A90
            clear A90
            by_cases c10 : t164 = true
            · subst c10
              have H1 : (none) = some r := by rw [if_pos rfl] at H; exact H
              clear H
              have H := H1
              clear H1
              exact absurd H (by simp)
            · replace c10 := Bool.eq_false_iff.mpr c10
              subst c10
              have H1 : (if (t160.length : Int) = 3 then (if 2 < (t160.length : Int) then (if (rdOf ByteArray.empty t160 2).toList = ([99] : List UInt8) then ((pick_Same.f k t157 t157).bind fun t166 => (some t166)) else (none)) else (none)) else (none)) = some r := by rw [if_neg (show ¬ (false = true) by decide)] at H; exact H
              clear H
              have H := H1
              clear H1
              by_cases c44 : (t160.length : Int) = 3
              · rw [if_pos c44] at H
                have c44b0 : ((t160.length : Int) == 3) = true := beq_iff_eq.mpr c44
                have c44b1 : ((t160.length : Int) != 3) = false := bne_eq_false_iff_eq.mpr c44
                clear c44
                by_cases c45 : 2 < (t160.length : Int)
                · rw [if_pos c45] at H
                  have c45b0 : decide (2 < (t160.length : Int)) = true := decide_eq_true c45
                  have c45b1 : decide (2 < t160.length) = true := decide_eq_true (by omega)
                  clear c45
                  by_cases c46 : (rdOf ByteArray.empty t160 2).toList = ([99] : List UInt8)
                  · rw [if_pos c46] at H
                    have c46b0 : ((rdOf ByteArray.empty t160 2).toList == ([99] : List UInt8)) = true := beq_iff_eq.mpr c46
                    have c46b1 : ((rdOf ByteArray.empty t160 2).toList != ([99] : List UInt8)) = false := bne_eq_false_iff_eq.mpr c46
                    clear c46
                    replace H := Option.bind_eq_some_iff.mp H
                    obtain ⟨t166, A470, H⟩ := H
                    replace H : (some t166) = some r := H
                    have A47 := am A470
                    clear A470
                    obtain rfl := Option.some.inj H
                    go_enter Try.func19, Try.ntmps19
                    go_wp2_with (first | ((with_reducible refine gate_dst (N := 4) rfl ?_); (try (refine gate_guard (by rfl) ?_; dsimp only)); refine Kd.R_lit Kd.string _ 9 ?hg (N := 4) ?hd (xs := ([(⟨#[97]⟩ : ByteArray)] : List ByteArray)) (inner := [.string (⟨#[97]⟩ : ByteArray)]) (ok := fun _ => True) (okp := fun _ => True) ?hr ?hp (fun _ hk => hk) trivial (Below.refl _ _) (Nat.le_refl _) (by simp) ?_; (case hd => rfl); (case hg => rfl); (case hr => first | (go_simp; done) | (go_simp; rfl)); (case hp => exact (Reps.one (show Kd.M Kd.string _ _ _ (⟨#[97]⟩ : ByteArray) [.string (⟨#[97]⟩ : ByteArray)] from rfl) (Reps.none _ _))); intro v126 w48 ho49 hb hg_ hnew_; clear hg_ hnew_; rw [← Ny125.out] at ho49; have n0_ := am (Kd.R_lower ho49 (below_size (by repeat (with_reducible first | exact HB.out | apply bA | apply bN | apply bD)))); have n1_ := am (below_step (by repeat (with_reducible first | exact HB.out | apply bA | apply bN | apply bD)) hb); clear HB; have HO127 := n0_; have HB := n1_; clear n0_ n1_; clear hb ho49) | ((with_reducible refine gate_dst (N := 5) rfl ?_); (try (refine gate_guard (by rfl) ?_; dsimp only)); refine Kd.R_lit Kd.string _ 9 ?hg (N := 5) ?hd (xs := ([(⟨#[98]⟩ : ByteArray)] : List ByteArray)) (inner := [.string (⟨#[98]⟩ : ByteArray)]) (ok := fun _ => True) (okp := fun _ => True) ?hr ?hp (fun _ hk => hk) trivial (Below.refl _ _) (Nat.le_refl _) (by simp) ?_; (case hd => rfl); (case hg => rfl); (case hr => first | (go_simp; done) | (go_simp; rfl)); (case hp => exact (Reps.one (show Kd.M Kd.string _ _ _ (⟨#[98]⟩ : ByteArray) [.string (⟨#[98]⟩ : ByteArray)] from rfl) (Reps.none _ _))); intro v129 w50 ho51 hb hg_ hnew_; clear hg_ hnew_; rw [← Ny128.out] at ho51; have n0_ := am (Kd.R_elder' (by (with_reducible repeat (first | apply rA | apply rN | apply rD)); exact HO127.out) (Kd.R_base ho51) hb); have n1_ := am (Kd.R_lower (Kd.R_new' ho51 (Kd.R_lt (by (with_reducible repeat (first | apply rA | apply rN | apply rD)); exact HO127.out))) (below_size (by repeat (with_reducible first | exact HB.out | apply bA | apply bN | apply bD)))); have n2_ := am (below_step (by repeat (with_reducible first | exact HB.out | apply bA | apply bN | apply bD)) hb); clear HO127; clear HB; have HO127 := n0_; have HO130 := n1_; have HB := n2_; clear n0_ n1_ n2_; clear hb ho51) | ((with_reducible refine gate_dst (N := 6) rfl ?_); (try (refine gate_guard (by rfl) ?_; dsimp only)); refine Kd.R_lit Kd.string _ 9 ?hg (N := 6) ?hd (xs := ([(⟨#[99]⟩ : ByteArray)] : List ByteArray)) (inner := [.string (⟨#[99]⟩ : ByteArray)]) (ok := fun _ => True) (okp := fun _ => True) ?hr ?hp (fun _ hk => hk) trivial (Below.refl _ _) (Nat.le_refl _) (by simp) ?_; (case hd => rfl); (case hg => rfl); (case hr => first | (go_simp; done) | (go_simp; rfl)); (case hp => exact (Reps.one (show Kd.M Kd.string _ _ _ (⟨#[99]⟩ : ByteArray) [.string (⟨#[99]⟩ : ByteArray)] from rfl) (Reps.none _ _))); intro v132 w52 ho53 hb hg_ hnew_; clear hg_ hnew_; rw [← Ny131.out] at ho53; have n0_ := am (Kd.R_elder' (by (with_reducible repeat (first | apply rA | apply rN | apply rD)); exact HO127.out) (Kd.R_base ho53) hb); have n1_ := am (Kd.R_elder' (by (with_reducible repeat (first | apply rA | apply rN | apply rD)); exact HO130.out) (Kd.R_base ho53) hb); have n2_ := am (Kd.R_lower (Kd.R_new' (Kd.R_new' ho53 (Kd.R_lt (by (with_reducible repeat (first | apply rA | apply rN | apply rD)); exact HO127.out))) (Kd.R_lt (by (with_reducible repeat (first | apply rA | apply rN | apply rD)); exact HO130.out))) (below_size (by repeat (with_reducible first | exact HB.out | apply bA | apply bN | apply bD)))); have n3_ := am (below_step (by repeat (with_reducible first | exact HB.out | apply bA | apply bN | apply bD)) hb); clear HO127; clear HO130; clear HB; have HO127 := n0_; have HO130 := n1_; have HO133 := n2_; have HB := n3_; clear n0_ n1_ n2_ n3_; clear hb ho53; obtain ⟨Ao54, co54, eo54⟩ := Kd.R_slice HO130.out; subst eo54; obtain ⟨Ao55, co55, eo55⟩ := Kd.R_slice HO133.out; subst eo55) | ((with_reducible refine gate_dst (N := 7) rfl ?_); (try (refine gate_guard (by rfl) ?_; dsimp only)); refine Kd.N_lit (Kd.slice 9 Kd.string) _ 22 ?hg (N' := 7) ?hd (xs := ([y128, y131] : List (List ByteArray))) (inner := [.slice Ao54 y128.length co54, .slice Ao55 y131.length co55]) (ok := (fun k_ => some k_ ≠ (v126 : Value).ownBlock)) (okp := (fun k_ => some k_ ≠ (v126 : Value).ownBlock)) ?hr ?hp (fun _ hk => hk) ((show ∀ k_, w52.heap.size ≤ k_ → (fun k_ => some k_ ≠ (v126 : Value).ownBlock) k_ from fun k_ hk => Kd.fresh' (Kd.R_lt (by (with_reducible repeat (first | apply rA | apply rN | apply rD)); exact HO127.out)) k_ hk) _ (Nat.le_refl _)) (Below.refl _ _) (Nat.le_refl _) (by simp) ?_; (case hd => rfl); (case hg => rfl); (case hr => first | (go_simp; done) | (go_simp; rfl)); (case hp => exact (Reps.one (show Kd.FK (Kd.slice 9 Kd.string) _ _ y128 [.slice Ao54 y128.length co54] from (Kd.FK_slice_mk (Kd.R_reads' (Kd.R_mono (ok' := (fun k_ => some k_ ≠ (v126 : Value).ownBlock)) (HO130.out) (fun k_ hk => hk.1.2))).2.1 (Kd.R_F (Kd.R_mono (ok' := (fun k_ => some k_ ≠ (v126 : Value).ownBlock)) (HO130.out) (fun k_ hk => hk.1.2))))) (Reps.one (show Kd.FK (Kd.slice 9 Kd.string) _ _ y131 [.slice Ao55 y131.length co55] from (Kd.FK_slice_mk (Kd.R_reads' (Kd.R_mono (ok' := (fun k_ => some k_ ≠ (v126 : Value).ownBlock)) (HO133.out) (fun k_ hk => hk.1.2))).2.1 (Kd.R_F (Kd.R_mono (ok' := (fun k_ => some k_ ≠ (v126 : Value).ownBlock)) (HO133.out) (fun k_ hk => hk.1.2))))) (Reps.none _ _)))); intro v135 w56 ho57 hb hg_ hnew_; clear hg_ hnew_; rw [← Ny134.out] at ho57; have n0_ := am (Kd.R_below (by (with_reducible repeat (first | apply rA | apply rN | apply rD)); exact HO127.out) hb); have n1_ := am (Kd.N_lower ho57 (below_size (by repeat (with_reducible first | exact HB.out | apply bA | apply bN | apply bD)))); have n2_ := am (below_step (by repeat (with_reducible first | exact HB.out | apply bA | apply bN | apply bD)) hb); clear HO127; clear HB; clear HO130; clear HO133; have HO127 := n0_; have HO136 := n1_; have HB := n2_; clear n0_ n1_ n2_; clear hb ho57; obtain ⟨Ao58, co58, eo58⟩ := Kd.R_slice HO127.out; subst eo58; obtain ⟨Ao59, co59, eo59⟩ := Kd.N_slice HO136.out; subst eo59) | ((with_reducible refine gate_callee (f := 21) rfl ?_); refine goesL_ (some 9) rfl rfl Try.func21 (by kernel_rfl) rfl #[.slice Ao58 y125.length co58, .slice Ao59 y134.length co59, .agg #[.int .i64 0, .bool false]] rfl (by (try simp only [List.map_toArray, List.map_cons, List.map_nil]); first | done | rfl | (simp only [List.length_drop, List.length_take]; rfl)) ?_; (with_reducible refine (pick_Piece.calls k (fun k_ => some k_ = (.slice Ao58 y125.length co58 : Value).ownBlock) _ _ y125 (fun k_ => some k_ ≠ (.slice Ao58 y125.length co58 : Value).ownBlock) _ _ y134 0 false true t138 t141 t144 _ ?side1 ?side2 A1.out).mono ?_); (case side1 => exact Kd.R_V (Kd.R_tight rfl (Kd.R_apart' (HO127.out) (Kd.N_typed HO136.out) (by decide)))); (case side2 => exact Kd.N_V (HO136.out)); rintro e w60 ⟨v139, v142, v145, rfl, ho0, ho1, ho2, hb⟩; refine ⟨_, rfl, ?_⟩; have n0_ := am (Kd.R_below (by (with_reducible repeat (first | apply rA | apply rN | apply rD)); exact HO127.out) hb); have n1_ := am (Kd.N_below (by (with_reducible repeat (first | apply nA | apply nN | apply nD)); exact HO136.out) hb); have n2_ := am (Kd.V_lower (Kd.V_mono (ok' := fun k_ => True) ho0 (fun k_ hk_ => trivial)) (below_size (by repeat (with_reducible first | exact HB.out | apply bA | apply bN | apply bD)))); have n3_ := am (Kd.V_lower (Kd.V_mono (ok' := fun k_ => True) ho1 (fun k_ hk_ => trivial)) (below_size (by repeat (with_reducible first | exact HB.out | apply bA | apply bN | apply bD)))); have n4_ := am (Kd.V_lower (Kd.V_mono (ok' := fun k_ => True) ho2 (fun k_ hk_ => trivial)) (below_size (by repeat (with_reducible first | exact HB.out | apply bA | apply bN | apply bD)))); have n5_ := am (below_step (by repeat (with_reducible first | exact HB.out | apply bA | apply bN | apply bD)) hb); clear HO127; clear HO136; clear HB; have HO127 := n0_; have HO136 := n1_; have HO140 := n2_; have HO143 := n3_; have HO146 := n4_; have HB := n5_; clear n0_ n1_ n2_ n3_ n4_ n5_; (try clear hb); (try clear hb2); (try clear hk); (try clear hi); (try clear ho0); (try clear ho1); (try clear ho2)) | ((with_reducible refine gate_dst (N := 1) rfl ?_); (try (refine gate_guard (by rfl) ?_; dsimp only)); refine box_event ?hg (N := 1) ?hd (cs := #[.bool false, .slice none 0 0, .slice none 0 0, .slice none 0 0]) (t := 27) ?hr ?_; (case hd => rfl); (case hg => rfl); (case hr => first | (go_simp; done) | (go_simp; rfl)); intro gb147 hg w61 hbox hb; have n0_ := am (Kd.R_below (by (with_reducible repeat (first | apply rA | apply rN | apply rD)); exact HO127.out) hb); have n1_ := am (Kd.N_below (Kd.N_elderB (by (with_reducible repeat (first | apply nA | apply nN | apply nD)); exact HO136.out) gb147 (Nat.le_of_eq hg.symm)) hb); have n2_ := am (Kd.V_below (Kd.V_elderB (by (with_reducible repeat (first | apply vA | apply vN | apply vD)); exact HO140.out) gb147 (Nat.le_of_eq hg.symm)) hb); have n3_ := am (Kd.V_below (Kd.V_elderB (by (with_reducible repeat (first | apply vA | apply vN | apply vD)); exact HO143.out) gb147 (Nat.le_of_eq hg.symm)) hb); have n4_ := am (Kd.V_below (Kd.V_elderB (by (with_reducible repeat (first | apply vA | apply vN | apply vD)); exact HO146.out) gb147 (Nat.le_of_eq hg.symm)) hb); have n5_ := am (below_step (by repeat (with_reducible first | exact HB.out | apply bA | apply bN | apply bD)) hb); have n6_ := am (hbox); have n7_ := am ((by rw [hg]; exact (below_size (by repeat (with_reducible first | exact HB.out | apply bA | apply bN | apply bD))) : w.heap.size ≤ gb147)); have n8_ := am ((by rw [hg]; exact (below_size (by repeat (with_reducible first | exact HB.out | apply bA | apply bN | apply bD))) : w.heap.size ≤ gb147)); clear HO127; clear HO136; clear HO140; clear HO143; clear HO146; clear HB; have HO127 := n0_; have HO136 := n1_; have HO140 := n2_; have HO143 := n3_; have HO146 := n4_; have HB := n5_; have BK147 := n6_; have GW147 := n7_; have GE147 := n8_; clear n0_ n1_ n2_ n3_ n4_ n5_ n6_ n7_ n8_; clear hb hbox hg; have hcz62_0 : w61.cell? ⟨gb147, 0, none⟩ = some (.bool false) := (blk_cell BK147.out 0).trans rfl; have hcz62_1 : w61.cell? ⟨gb147, 1, none⟩ = some (.slice none 0 0) := (blk_cell BK147.out 1).trans rfl; have hcz62_2 : w61.cell? ⟨gb147, 2, none⟩ = some (.slice none 0 0) := (blk_cell BK147.out 2).trans rfl; have hcz62_3 : w61.cell? ⟨gb147, 3, none⟩ = some (.slice none 0 0) := (blk_cell BK147.out 3).trans rfl; have hfz62_0 := blk_frozen BK147.out 0; have hfz62_1 := blk_frozen BK147.out 1; have hfz62_2 := blk_frozen BK147.out 2; have hfz62_3 := blk_frozen BK147.out 3; obtain ⟨Ao63, co63, eo63⟩ := Kd.V_slice HO140.out; subst eo63; obtain ⟨Ao64, co64, eo64⟩ := Kd.V_slice HO143.out; subst eo64; obtain ⟨Ao65, co65, eo65⟩ := Kd.V_slice HO146.out; subst eo65) | ((with_reducible refine gate_dst (N := 10) rfl ?_); (try (refine gate_guard (by rfl) ?_; dsimp only)); refine Kd.R_lit Kd.string _ 9 ?hg (N := 10) ?hd (xs := ([(⟨#[120]⟩ : ByteArray)] : List ByteArray)) (inner := [.string (⟨#[120]⟩ : ByteArray)]) (ok := fun _ => True) (okp := fun _ => True) ?hr ?hp (fun _ hk => hk) trivial (Below.refl _ _) (Nat.le_refl _) (by simp) ?_; (case hd => rfl); (case hg => rfl); (case hr => first | (go_simp; done) | (go_simp; rfl)); (case hp => exact (Reps.one (show Kd.M Kd.string _ _ _ (⟨#[120]⟩ : ByteArray) [.string (⟨#[120]⟩ : ByteArray)] from rfl) (Reps.none _ _))); intro v149 w66 ho67 hb hg_ hnew_; clear hg_ hnew_; rw [← Ny148.out] at ho67; have n0_ := am (Kd.R_elder' (by (with_reducible repeat (first | apply rA | apply rN | apply rD)); exact (Kd.R_mono (Kd.R_far (p := ⟨gb147, 3, none⟩) (Kd.R_far (p := ⟨gb147, 2, none⟩) (Kd.R_far (p := ⟨gb147, 1, none⟩) (Kd.R_far (p := ⟨gb147, 0, none⟩) (Kd.R_types HO127.out BK147.out (by decide)) (fun _ hk => hk.2) (.bool true)) (fun _ hk => hk.2) (.slice Ao63 t138.length co63)) (fun _ hk => hk.2) (.slice Ao64 t141.length co64)) (fun _ hk => hk.2) (.slice Ao65 t144.length co65)) (fun _ h_ => h_.1))) (Kd.R_base ho67) hb); have n1_ := am (Kd.N_elder' (by (with_reducible repeat (first | apply nA | apply nN | apply nD)); exact (Kd.N_mono (Kd.N_far (p := ⟨gb147, 3, none⟩) (Kd.N_far (p := ⟨gb147, 2, none⟩) (Kd.N_far (p := ⟨gb147, 1, none⟩) (Kd.N_far (p := ⟨gb147, 0, none⟩) (Kd.N_mono HO136.out (fun k_ hk => (⟨hk, hk.2⟩ : _ ∧ k_ ≠ gb147))) (fun _ hk => hk.2) (.bool true)) (fun _ hk => hk.2) (.slice Ao63 t138.length co63)) (fun _ hk => hk.2) (.slice Ao64 t141.length co64)) (fun _ hk => hk.2) (.slice Ao65 t144.length co65)) (fun _ h_ => h_.1))) (Kd.R_base ho67) hb); have n2_ := am (Kd.V_elder' (by (with_reducible repeat (first | apply vA | apply vN | apply vD)); exact (Kd.V_mono (Kd.V_far (p := ⟨gb147, 3, none⟩) (Kd.V_far (p := ⟨gb147, 2, none⟩) (Kd.V_far (p := ⟨gb147, 1, none⟩) (Kd.V_far (p := ⟨gb147, 0, none⟩) (Kd.V_mono HO140.out (fun k_ hk => (⟨hk, hk.2⟩ : _ ∧ k_ ≠ gb147))) (fun _ hk => hk.2) (.bool true)) (fun _ hk => hk.2) (.slice Ao63 t138.length co63)) (fun _ hk => hk.2) (.slice Ao64 t141.length co64)) (fun _ hk => hk.2) (.slice Ao65 t144.length co65)) (fun _ h_ => h_.1))) (Kd.R_base ho67) hb); have n3_ := am (Kd.V_elder' (by (with_reducible repeat (first | apply vA | apply vN | apply vD)); exact (Kd.V_mono (Kd.V_far (p := ⟨gb147, 3, none⟩) (Kd.V_far (p := ⟨gb147, 2, none⟩) (Kd.V_far (p := ⟨gb147, 1, none⟩) (Kd.V_far (p := ⟨gb147, 0, none⟩) (Kd.V_mono HO143.out (fun k_ hk => (⟨hk, hk.2⟩ : _ ∧ k_ ≠ gb147))) (fun _ hk => hk.2) (.bool true)) (fun _ hk => hk.2) (.slice Ao63 t138.length co63)) (fun _ hk => hk.2) (.slice Ao64 t141.length co64)) (fun _ hk => hk.2) (.slice Ao65 t144.length co65)) (fun _ h_ => h_.1))) (Kd.R_base ho67) hb); have n4_ := am (Kd.V_elder' (by (with_reducible repeat (first | apply vA | apply vN | apply vD)); exact (Kd.V_mono (Kd.V_far (p := ⟨gb147, 3, none⟩) (Kd.V_far (p := ⟨gb147, 2, none⟩) (Kd.V_far (p := ⟨gb147, 1, none⟩) (Kd.V_far (p := ⟨gb147, 0, none⟩) (Kd.V_mono HO146.out (fun k_ hk => (⟨hk, hk.2⟩ : _ ∧ k_ ≠ gb147))) (fun _ hk => hk.2) (.bool true)) (fun _ hk => hk.2) (.slice Ao63 t138.length co63)) (fun _ hk => hk.2) (.slice Ao64 t141.length co64)) (fun _ hk => hk.2) (.slice Ao65 t144.length co65)) (fun _ h_ => h_.1))) (Kd.R_base ho67) hb); have n5_ := am (Kd.R_lower (Kd.R_new' ho67 (Kd.R_lt (by (with_reducible repeat (first | apply rA | apply rN | apply rD)); exact (Kd.R_mono (Kd.R_far (p := ⟨gb147, 3, none⟩) (Kd.R_far (p := ⟨gb147, 2, none⟩) (Kd.R_far (p := ⟨gb147, 1, none⟩) (Kd.R_far (p := ⟨gb147, 0, none⟩) (Kd.R_types HO127.out BK147.out (by decide)) (fun _ hk => hk.2) (.bool true)) (fun _ hk => hk.2) (.slice Ao63 t138.length co63)) (fun _ hk => hk.2) (.slice Ao64 t141.length co64)) (fun _ hk => hk.2) (.slice Ao65 t144.length co65)) (fun _ h_ => h_.1))))) (below_size (by repeat (first | (with_reducible first | exact HB.out | apply below_alloc | apply pw_below_drewN | apply below_drew1 | refine below_set ?_ GE147.out) | exact HB.out)))); have n6_ := am (blk_below (g := gb147) (o := .cells #[.bool true, .slice Ao63 t138.length co63, .slice Ao64 t141.length co64, .slice Ao65 t144.length co65] 27 (0, 0)) (by (with_reducible repeat (first | refine blk_drewN ?_ _ | refine blk_drew ?_ | refine blk_alloc ?_ _)); refine blk_put (cs := #[.bool true, .slice Ao63 t138.length co63, .slice Ao64 t141.length co64, .slice none 0 0]) ?_ 3 _ rfl; (with_reducible repeat (first | refine blk_drewN ?_ _ | refine blk_drew ?_ | refine blk_alloc ?_ _)); refine blk_put (cs := #[.bool true, .slice Ao63 t138.length co63, .slice none 0 0, .slice none 0 0]) ?_ 2 _ rfl; (with_reducible repeat (first | refine blk_drewN ?_ _ | refine blk_drew ?_ | refine blk_alloc ?_ _)); refine blk_put (cs := #[.bool true, .slice none 0 0, .slice none 0 0, .slice none 0 0]) ?_ 1 _ rfl; (with_reducible repeat (first | refine blk_drewN ?_ _ | refine blk_drew ?_ | refine blk_alloc ?_ _)); refine blk_put (cs := #[.bool false, .slice none 0 0, .slice none 0 0, .slice none 0 0]) ?_ 0 _ rfl; (with_reducible repeat (first | refine blk_drewN ?_ _ | refine blk_drew ?_ | refine blk_alloc ?_ _)); exact BK147.out) hb); have n7_ := am (below_step (by repeat (first | (with_reducible first | exact HB.out | apply below_alloc | apply pw_below_drewN | apply below_drew1 | refine below_set ?_ GE147.out) | exact HB.out)) hb); clear HO127; clear HO136; clear HO140; clear HO143; clear HO146; clear BK147; clear HB; have HO127 := n0_; have HO136 := n1_; have HO140 := n2_; have HO143 := n3_; have HO146 := n4_; have HO150 := n5_; have BK147 := n6_; have HB := n7_; clear n0_ n1_ n2_ n3_ n4_ n5_ n6_ n7_; clear hb ho67; obtain ⟨Ao68, co68, eo68⟩ := Kd.R_slice HO150.out; subst eo68) | ((with_reducible refine gate_dst (N := 13) rfl ?_); (try (refine gate_guard (by rfl) ?_; dsimp only)); refine Kd.R_lit Kd.string _ 9 ?hg (N := 13) ?hd (xs := ([(⟨#[121]⟩ : ByteArray)] : List ByteArray)) (inner := [.string (⟨#[121]⟩ : ByteArray)]) (ok := fun _ => True) (okp := fun _ => True) ?hr ?hp (fun _ hk => hk) trivial (Below.refl _ _) (Nat.le_refl _) (by simp) ?_; (case hd => rfl); (case hg => rfl); (case hr => first | (go_simp; done) | (go_simp; rfl)); (case hp => exact (Reps.one (show Kd.M Kd.string _ _ _ (⟨#[121]⟩ : ByteArray) [.string (⟨#[121]⟩ : ByteArray)] from rfl) (Reps.none _ _))); intro v152 w69 ho70 hb hg_ hnew_; clear hg_ hnew_; rw [← Ny151.out] at ho70; have n0_ := am (Kd.R_elder' (by (with_reducible repeat (first | apply rA | apply rN | apply rD)); exact HO127.out) (Kd.R_base ho70) hb); have n1_ := am (Kd.N_elder' (by (with_reducible repeat (first | apply nA | apply nN | apply nD)); exact HO136.out) (Kd.R_base ho70) hb); have n2_ := am (Kd.V_elder' (by (with_reducible repeat (first | apply vA | apply vN | apply vD)); exact HO140.out) (Kd.R_base ho70) hb); have n3_ := am (Kd.V_elder' (by (with_reducible repeat (first | apply vA | apply vN | apply vD)); exact HO143.out) (Kd.R_base ho70) hb); have n4_ := am (Kd.V_elder' (by (with_reducible repeat (first | apply vA | apply vN | apply vD)); exact HO146.out) (Kd.R_base ho70) hb); have n5_ := am (Kd.R_elder' (by (with_reducible repeat (first | apply rA | apply rN | apply rD)); exact HO150.out) (Kd.R_base ho70) hb); have n6_ := am (Kd.R_lower (Kd.R_new' (Kd.R_new' ho70 (Kd.R_lt (by (with_reducible repeat (first | apply rA | apply rN | apply rD)); exact HO127.out))) (Kd.R_lt (by (with_reducible repeat (first | apply rA | apply rN | apply rD)); exact HO150.out))) (below_size (by repeat (first | (with_reducible first | exact HB.out | apply below_alloc | apply pw_below_drewN | apply below_drew1 | refine below_set ?_ GE147.out) | exact HB.out)))); have n7_ := am (blk_below (g := gb147) (o := .cells #[.bool true, .slice Ao63 t138.length co63, .slice Ao64 t141.length co64, .slice Ao65 t144.length co65] 27 (0, 0)) (by (with_reducible repeat (first | refine blk_drewN ?_ _ | refine blk_drew ?_ | refine blk_alloc ?_ _)); exact BK147.out) hb); have n8_ := am (below_step (by repeat (first | (with_reducible first | exact HB.out | apply below_alloc | apply pw_below_drewN | apply below_drew1 | refine below_set ?_ GE147.out) | exact HB.out)) hb); clear HO127; clear HO136; clear HO140; clear HO143; clear HO146; clear HO150; clear BK147; clear HB; have HO127 := n0_; have HO136 := n1_; have HO140 := n2_; have HO143 := n3_; have HO146 := n4_; have HO150 := n5_; have HO153 := n6_; have BK147 := n7_; have HB := n8_; clear n0_ n1_ n2_ n3_ n4_ n5_ n6_ n7_ n8_; clear hb ho70; obtain ⟨Ao71, co71, eo71⟩ := Kd.R_slice HO153.out; subst eo71; have hcz72_0 : w69.cell? ⟨gb147, 0, none⟩ = some (.bool true) := (blk_cell BK147.out 0).trans rfl; have hcz72_1 : w69.cell? ⟨gb147, 1, none⟩ = some (.slice Ao63 t138.length co63) := (blk_cell BK147.out 1).trans rfl; have hcz72_2 : w69.cell? ⟨gb147, 2, none⟩ = some (.slice Ao64 t141.length co64) := (blk_cell BK147.out 2).trans rfl; have hcz72_3 : w69.cell? ⟨gb147, 3, none⟩ = some (.slice Ao65 t144.length co65) := (blk_cell BK147.out 3).trans rfl; have hfz72_0 := blk_frozen BK147.out 0; have hfz72_1 := blk_frozen BK147.out 1; have hfz72_2 := blk_frozen BK147.out 2; have hfz72_3 := blk_frozen BK147.out 3) | ((with_reducible refine gate_dst (N := 16) rfl ?_); (try (refine gate_guard (by rfl) ?_; dsimp only)); refine Kd.N_lit k27 _ 27 ?hg (N' := 16) ?hd (xs := ([(⟨false, y148, ([] : List ByteArray), ([] : List (List ByteArray))⟩ : S27), (⟨false, ([] : List ByteArray), ([] : List ByteArray), ([] : List (List ByteArray))⟩ : S27), (⟨false, y151, ([] : List ByteArray), ([] : List (List ByteArray))⟩ : S27), (⟨true, t138, t141, t144⟩ : S27)] : List (S27))) (inner := [.bool false, .slice Ao68 y148.length co68, .slice none 0 0, .slice none 0 0, .bool false, .slice none 0 0, .slice none 0 0, .slice none 0 0, .bool false, .slice Ao71 y151.length co71, .slice none 0 0, .slice none 0 0, .bool true, .slice Ao63 t138.length co63, .slice Ao64 t141.length co64, .slice Ao65 t144.length co65]) (ok := (fun k_ => k_ ≠ gb147)) (okp := (fun k_ => k_ ≠ gb147)) ?hr ?hp (fun _ hk => hk) ((show ∀ k_, w69.heap.size ≤ k_ → (fun k_ => k_ ≠ gb147) k_ from fun k_ hk => Kd.freshB (g := gb147) (o := .cells #[.bool true, .slice Ao63 t138.length co63, .slice Ao64 t141.length co64, .slice Ao65 t144.length co65] 27 (0, 0)) (by (with_reducible repeat (first | refine blk_drewN ?_ _ | refine blk_drew ?_ | refine blk_alloc ?_ _)); exact BK147.out) k_ hk) _ (Nat.le_refl _)) (Below.refl _ _) (Nat.le_refl _) (by simp) ?_; (case hd => rfl); (case hg => rfl); (case hr => first | (go_simp; done) | (go_simp; rfl)); (case hp => exact (Reps.c4 (show Kd.FK k27 _ _ (⟨false, y148, ([] : List ByteArray), ([] : List (List ByteArray))⟩ : S27) [.bool false, .slice Ao68 y148.length co68, .slice none 0 0, .slice none 0 0] from (k27_mkF _ _ (⟨false, y148, ([] : List ByteArray), ([] : List (List ByteArray))⟩ : S27) (Kd.R_reads' (Kd.R_mono (ok' := (fun k_ => k_ ≠ gb147)) (Kd.R_types (HO150.out) BK147.out (by decide)) (fun k_ hk => hk.2))).2.1 (Kd.R_F (Kd.R_mono (ok' := (fun k_ => k_ ≠ gb147)) (Kd.R_types (HO150.out) BK147.out (by decide)) (fun k_ hk => hk.2))) (Nat.le_refl _) (Kd.F_nil _ _ _) (Nat.le_refl _) (Kd.F_nil _ _ _))) (Reps.c4 (show Kd.FK k27 _ _ (⟨false, ([] : List ByteArray), ([] : List ByteArray), ([] : List (List ByteArray))⟩ : S27) [.bool false, .slice none 0 0, .slice none 0 0, .slice none 0 0] from (k27_mkF _ _ (⟨false, ([] : List ByteArray), ([] : List ByteArray), ([] : List (List ByteArray))⟩ : S27) (Nat.le_refl _) (Kd.F_nil _ _ _) (Nat.le_refl _) (Kd.F_nil _ _ _) (Nat.le_refl _) (Kd.F_nil _ _ _))) (Reps.c4 (show Kd.FK k27 _ _ (⟨false, y151, ([] : List ByteArray), ([] : List (List ByteArray))⟩ : S27) [.bool false, .slice Ao71 y151.length co71, .slice none 0 0, .slice none 0 0] from (k27_mkF _ _ (⟨false, y151, ([] : List ByteArray), ([] : List (List ByteArray))⟩ : S27) (Kd.R_reads' (Kd.R_mono (ok' := (fun k_ => k_ ≠ gb147)) (Kd.R_types (HO153.out) BK147.out (by decide)) (fun k_ hk => hk.2))).2.1 (Kd.R_F (Kd.R_mono (ok' := (fun k_ => k_ ≠ gb147)) (Kd.R_types (HO153.out) BK147.out (by decide)) (fun k_ hk => hk.2))) (Nat.le_refl _) (Kd.F_nil _ _ _) (Nat.le_refl _) (Kd.F_nil _ _ _))) (Reps.c4 (show Kd.FK k27 _ _ (⟨true, t138, t141, t144⟩ : S27) [.bool true, .slice Ao63 t138.length co63, .slice Ao64 t141.length co64, .slice Ao65 t144.length co65] from (k27_mkF _ _ (⟨true, t138, t141, t144⟩ : S27) (Kd.V_reads' (Kd.V_mono (ok' := (fun k_ => k_ ≠ gb147)) (HO140.out) (fun k_ hk => hk.1.1.2))).2.1 (Kd.V_F (Kd.V_mono (ok' := (fun k_ => k_ ≠ gb147)) (HO140.out) (fun k_ hk => hk.1.1.2))) (Kd.V_reads' (Kd.V_mono (ok' := (fun k_ => k_ ≠ gb147)) (HO143.out) (fun k_ hk => hk.1.1.2))).2.1 (Kd.V_F (Kd.V_mono (ok' := (fun k_ => k_ ≠ gb147)) (HO143.out) (fun k_ hk => hk.1.1.2))) (Kd.V_reads' (Kd.V_mono (ok' := (fun k_ => k_ ≠ gb147)) (HO146.out) (fun k_ hk => hk.1.1.2))).2.1 (Kd.V_F (Kd.V_mono (ok' := (fun k_ => k_ ≠ gb147)) (HO146.out) (fun k_ hk => hk.1.1.2))))) (Reps.none _ _)))))); intro v155 w73 ho74 hb hg_ hnew_; clear hg_ hnew_; rw [← Ny154.out] at ho74; have n0_ := am (Kd.R_below (by (with_reducible repeat (first | apply rA | apply rN | apply rD)); exact HO127.out) hb); have n1_ := am (Kd.N_elder' (by (with_reducible repeat (first | apply nA | apply nN | apply nD)); exact HO136.out) (Kd.N_base ho74) hb); have n2_ := am (Kd.V_elder' (by (with_reducible repeat (first | apply vA | apply vN | apply vD)); exact HO140.out) (Kd.N_base ho74) hb); have n3_ := am (Kd.V_elder' (by (with_reducible repeat (first | apply vA | apply vN | apply vD)); exact HO143.out) (Kd.N_base ho74) hb); have n4_ := am (Kd.V_elder' (by (with_reducible repeat (first | apply vA | apply vN | apply vD)); exact HO146.out) (Kd.N_base ho74) hb); have n5_ := am (Kd.N_lower ho74 (below_size (by repeat (first | (with_reducible first | exact HB.out | apply below_alloc | apply pw_below_drewN | apply below_drew1 | refine below_set ?_ GE147.out) | exact HB.out)))); have n6_ := am (blk_below (g := gb147) (o := .cells #[.bool true, .slice Ao63 t138.length co63, .slice Ao64 t141.length co64, .slice Ao65 t144.length co65] 27 (0, 0)) (by (with_reducible repeat (first | refine blk_drewN ?_ _ | refine blk_drew ?_ | refine blk_alloc ?_ _)); exact BK147.out) hb); have n7_ := am (below_step (by repeat (first | (with_reducible first | exact HB.out | apply below_alloc | apply pw_below_drewN | apply below_drew1 | refine below_set ?_ GE147.out) | exact HB.out)) hb); clear HO127; clear HO136; clear HO140; clear HO143; clear HO146; clear BK147; clear HB; clear HO150; clear HO153; have HO127 := n0_; have HO136 := n1_; have HO140 := n2_; have HO143 := n3_; have HO146 := n4_; have HO156 := n5_; have BK147 := n6_; have HB := n7_; clear n0_ n1_ n2_ n3_ n4_ n5_ n6_ n7_; clear hb ho74; obtain ⟨Ao75, co75, eo75⟩ := Kd.N_slice HO156.out; subst eo75) | ((with_reducible refine gate_callee (f := 40) rfl ?_); refine goesL_ (some 17) rfl rfl Try.func40 (by kernel_rfl) rfl #[.slice Ao75 y154.length co75] rfl (by (try simp only [List.map_toArray, List.map_cons, List.map_nil]); first | done | rfl | (simp only [List.length_drop, List.length_take]; rfl)) ?_; (with_reducible refine (pick_Normal.calls k (fun k_ => k_ ≠ gb147) _ _ y154 t157 _ ?side1 A2.out).mono ?_); (case side1 => exact Kd.N_V (HO156.out)); rintro e w76 ⟨v158, rfl, ho0, hb⟩; refine ⟨_, rfl, ?_⟩; have n0_ := am (Kd.R_below (by (with_reducible repeat (first | apply rA | apply rN | apply rD)); exact HO127.out) hb); have n1_ := am (Kd.N_elder' (by (with_reducible repeat (first | apply nA | apply nN | apply nD)); exact HO136.out) (Kd.N_base ho0) hb); have n2_ := am (Kd.V_elder' (by (with_reducible repeat (first | apply vA | apply vN | apply vD)); exact HO140.out) (Kd.N_base ho0) hb); have n3_ := am (Kd.V_elder' (by (with_reducible repeat (first | apply vA | apply vN | apply vD)); exact HO143.out) (Kd.N_base ho0) hb); have n4_ := am (Kd.V_elder' (by (with_reducible repeat (first | apply vA | apply vN | apply vD)); exact HO146.out) (Kd.N_base ho0) hb); have n5_ := am (Kd.N_elder' (by (with_reducible repeat (first | apply nA | apply nN | apply nD)); exact HO156.out) (Kd.N_base ho0) hb); have n6_ := am (Kd.N_lower (Kd.N_mono (ok' := fun k_ => k_ ≠ gb147) ho0 (fun k_ hk_ => Or.elim hk_ (fun hs_ => hs_) (fun hn_ => (Kd.freshB (g := gb147) (o := .cells #[.bool true, .slice Ao63 t138.length co63, .slice Ao64 t141.length co64, .slice Ao65 t144.length co65] 27 (0, 0)) (by (with_reducible repeat (first | refine blk_drewN ?_ _ | refine blk_drew ?_ | refine blk_alloc ?_ _)); exact BK147.out) k_ hn_)))) (below_size (by repeat (first | (with_reducible first | exact HB.out | apply below_alloc | apply pw_below_drewN | apply below_drew1 | refine below_set ?_ GE147.out) | exact HB.out)))); have n7_ := am (blk_below (g := gb147) (o := .cells #[.bool true, .slice Ao63 t138.length co63, .slice Ao64 t141.length co64, .slice Ao65 t144.length co65] 27 (0, 0)) (by (with_reducible repeat (first | refine blk_drewN ?_ _ | refine blk_drew ?_ | refine blk_alloc ?_ _)); exact BK147.out) hb); have n8_ := am (below_step (by repeat (first | (with_reducible first | exact HB.out | apply below_alloc | apply pw_below_drewN | apply below_drew1 | refine below_set ?_ GE147.out) | exact HB.out)) hb); clear HO127; clear HO136; clear HO140; clear HO143; clear HO146; clear HO156; clear BK147; clear HB; have HO127 := n0_; have HO136 := n1_; have HO140 := n2_; have HO143 := n3_; have HO146 := n4_; have HO156 := n5_; have HO159 := n6_; have BK147 := n7_; have HB := n8_; clear n0_ n1_ n2_ n3_ n4_ n5_ n6_ n7_ n8_; (try clear hb); (try clear hb2); (try clear hk); (try clear hi); (try clear ho0); obtain ⟨Ao77, co77, eo77⟩ := Kd.N_slice HO159.out; subst eo77) | ((with_reducible refine gate_callee (f := 44) rfl ?_); refine goesL_ (some 19) rfl rfl Try.func44 (by kernel_rfl) rfl #[.slice Ao77 t157.length co77, .int .i64 2] rfl (by (try simp only [List.map_toArray, List.map_cons, List.map_nil]); first | done | rfl | (simp only [List.length_drop, List.length_take]; rfl)) ?_; (with_reducible refine (pick_Choose.calls k _ _ t157 2 t160 _ ?side1 ?side2 A3.out).mono ?_); (case side1 => repeat (first | exact (Kd.N_reads' HO159.out).2.2 | (with_reducible refine Kd.C_alloc ?_ _) | (with_reducible refine Kd.C_drewN ?_ _) | (with_reducible refine Kd.C_drew ?_))); (case side2 => exact (Kd.N_reads' HO159.out).2.1); rintro e w78 ⟨v161, rfl, ho0, hb⟩; refine ⟨_, rfl, ?_⟩; have n0_ := am (Kd.R_elder' (by (with_reducible repeat (first | apply rA | apply rN | apply rD)); exact HO127.out) (Kd.R_base ho0) hb); have n1_ := am (Kd.N_elder' (by (with_reducible repeat (first | apply nA | apply nN | apply nD)); exact HO136.out) (Kd.R_base ho0) hb); have n2_ := am (Kd.V_elder' (by (with_reducible repeat (first | apply vA | apply vN | apply vD)); exact HO140.out) (Kd.R_base ho0) hb); have n3_ := am (Kd.V_elder' (by (with_reducible repeat (first | apply vA | apply vN | apply vD)); exact HO143.out) (Kd.R_base ho0) hb); have n4_ := am (Kd.V_elder' (by (with_reducible repeat (first | apply vA | apply vN | apply vD)); exact HO146.out) (Kd.R_base ho0) hb); have n5_ := am (Kd.N_elder' (by (with_reducible repeat (first | apply nA | apply nN | apply nD)); exact HO156.out) (Kd.R_base ho0) hb); have n6_ := am (Kd.N_elder' (by (with_reducible repeat (first | apply nA | apply nN | apply nD)); exact HO159.out) (Kd.R_base ho0) hb); have n7_ := am (Kd.R_lower (Kd.R_new' ho0 (Kd.R_lt (by (with_reducible repeat (first | apply rA | apply rN | apply rD)); exact HO127.out))) (below_size (by repeat (first | (with_reducible first | exact HB.out | apply below_alloc | apply pw_below_drewN | apply below_drew1 | refine below_set ?_ GE147.out) | exact HB.out)))); have n8_ := am (blk_below (g := gb147) (o := .cells #[.bool true, .slice Ao63 t138.length co63, .slice Ao64 t141.length co64, .slice Ao65 t144.length co65] 27 (0, 0)) (by (with_reducible repeat (first | refine blk_drewN ?_ _ | refine blk_drew ?_ | refine blk_alloc ?_ _)); exact BK147.out) hb); have n9_ := am (below_step (by repeat (first | (with_reducible first | exact HB.out | apply below_alloc | apply pw_below_drewN | apply below_drew1 | refine below_set ?_ GE147.out) | exact HB.out)) hb); clear HO127; clear HO136; clear HO140; clear HO143; clear HO146; clear HO156; clear HO159; clear BK147; clear HB; have HO127 := n0_; have HO136 := n1_; have HO140 := n2_; have HO143 := n3_; have HO146 := n4_; have HO156 := n5_; have HO159 := n6_; have HO162 := n7_; have BK147 := n8_; have HB := n9_; clear n0_ n1_ n2_ n3_ n4_ n5_ n6_ n7_ n8_ n9_; (try clear hb); (try clear hb2); (try clear hk); (try clear hi); (try clear ho0); have hcz79_0 : w78.cell? ⟨gb147, 0, none⟩ = some (.bool true) := (blk_cell BK147.out 0).trans rfl; have hcz79_1 : w78.cell? ⟨gb147, 1, none⟩ = some (.slice Ao63 t138.length co63) := (blk_cell BK147.out 1).trans rfl; have hcz79_2 : w78.cell? ⟨gb147, 2, none⟩ = some (.slice Ao64 t141.length co64) := (blk_cell BK147.out 2).trans rfl; have hcz79_3 : w78.cell? ⟨gb147, 3, none⟩ = some (.slice Ao65 t144.length co65) := (blk_cell BK147.out 3).trans rfl; have hfz79_0 := blk_frozen BK147.out 0; have hfz79_1 := blk_frozen BK147.out 1; have hfz79_2 := blk_frozen BK147.out 2; have hfz79_3 := blk_frozen BK147.out 3; have p163 : 0 ≤ (0 : Int) := (by omega); have q163 : 0 < (t157.length : Int) := of_decide_eq_true (by first | (with_reducible assumption) | assumption); obtain ⟨ad163, A163_1, c163_1, A163_2, c163_2, A163_3, c163_3, e163, hx163_0, hx163_1, hx163_2, hx163_3, hl163_1, hi163_1, hl163_2, hi163_2, hl163_3, hi163_3⟩ := at_T27 (Kd.N_reads' HO159.out).2.2 0 p163 q163; cases e163; obtain ⟨ce163, hce163, hMe163, hcc163⟩ := Kd.N_get HO159.out z27 0 p163 (by first | exact q163 | exact of_decide_eq_true (by first | (with_reducible assumption) | assumption) | (have e_ := (Kd.N_reads' HO159.out).1; omega)); obtain ⟨ua163_1, uc163_1, ua163_2, uc163_2, ua163_3, uc163_3, rfl, ul163_1, ge163_1, ul163_2, ge163_2, ul163_3, ge163_3⟩ := k27_openF hMe163; have hv163_1 := hcc163 1 _ rfl; rw [add_field _ _ 1 (by omega)] at hv163_1; replace hv163_1 := Option.some.inj (hv163_1.symm.trans hx163_1); injection hv163_1 with hva_ hvn_ hvc_; rw [hva_] at ge163_1; rw [hvc_] at ul163_1; have HL163_1 := am (show Kd.V Kd.string 9 _ w.heap.size _ _ ((rd_T27 t157 0).f1) from Kd.V_mk ul163_1 ge163_1); clear hva_ hvn_ hvc_ ge163_1 ul163_1; have hv163_2 := hcc163 2 _ rfl; rw [add_field _ _ 2 (by omega)] at hv163_2; replace hv163_2 := Option.some.inj (hv163_2.symm.trans hx163_2); injection hv163_2 with hva_ hvn_ hvc_; rw [hva_] at ge163_2; rw [hvc_] at ul163_2; have HL163_2 := am (show Kd.V Kd.string 9 _ w.heap.size _ _ ((rd_T27 t157 0).f2) from Kd.V_mk ul163_2 ge163_2); clear hva_ hvn_ hvc_ ge163_2 ul163_2; have hv163_3 := hcc163 3 _ rfl; rw [add_field _ _ 3 (by omega)] at hv163_3; replace hv163_3 := Option.some.inj (hv163_3.symm.trans hx163_3); injection hv163_3 with hva_ hvn_ hvc_; rw [hva_] at ge163_3; rw [hvc_] at ul163_3; have HL163_3 := am (show Kd.V (Kd.slice 9 Kd.string) 22 _ w.heap.size _ _ ((rd_T27 t157 0).f3) from Kd.V_mk ul163_3 ge163_3); clear hva_ hvn_ hvc_ ge163_3 ul163_3; clear hcc163 hce163; have qi163 : (0 < t157.length) = True := eq_true (by omega); (try rw [show ((0 : Int)).toNat = 0 from rfl] at hx163_0); (try rw [show 0 * 4 = 0 from rfl] at hx163_0); (try rw [Addr.add_zero'] at hx163_0); (try rw [show ((0 : Int)).toNat = 0 from rfl] at hx163_1); (try rw [show 0 * 4 = 0 from rfl] at hx163_1); (try rw [Addr.add_zero'] at hx163_1); (try rw [show ((0 : Int)).toNat = 0 from rfl] at hx163_2); (try rw [show 0 * 4 = 0 from rfl] at hx163_2); (try rw [Addr.add_zero'] at hx163_2); (try rw [show ((0 : Int)).toNat = 0 from rfl] at hx163_3); (try rw [show 0 * 4 = 0 from rfl] at hx163_3); (try rw [Addr.add_zero'] at hx163_3); have HR163_1 := am hi163_1; have HC163_1 := am hl163_1; clear hi163_1 hl163_1; have HR163_2 := am hi163_2; have HC163_2 := am hl163_2; clear hi163_2 hl163_2; have HR163_3 := am hi163_3; have HC163_3 := am hl163_3; clear hi163_3 hl163_3; replace p163 := eq_true p163; replace q163 := eq_true q163) | (go_at_call 43; (with_reducible refine (pick_Clean.calls k _ _ t157 false _ ?side1 ?side2 A9.out).mono ?_); (case side1 => repeat (first | exact (Kd.N_reads' HO159.out).2.2 | (with_reducible refine Kd.C_alloc ?_ _) | (with_reducible refine Kd.C_drewN ?_ _) | (with_reducible refine Kd.C_drew ?_))); (case side2 => exact (Kd.N_reads' HO159.out).2.1); rintro e w80 ⟨rfl, hb⟩; have n0_ := am (Kd.R_below (by (with_reducible repeat (first | apply rA | apply rN | apply rD)); exact HO127.out) hb); have n1_ := am (Kd.N_below (by (with_reducible repeat (first | apply nA | apply nN | apply nD)); exact HO136.out) hb); have n2_ := am (Kd.V_below (by (with_reducible repeat (first | apply vA | apply vN | apply vD)); exact HO140.out) hb); have n3_ := am (Kd.V_below (by (with_reducible repeat (first | apply vA | apply vN | apply vD)); exact HO143.out) hb); have n4_ := am (Kd.V_below (by (with_reducible repeat (first | apply vA | apply vN | apply vD)); exact HO146.out) hb); have n5_ := am (Kd.N_below (by (with_reducible repeat (first | apply nA | apply nN | apply nD)); exact HO156.out) hb); have n6_ := am (Kd.N_below (by (with_reducible repeat (first | apply nA | apply nN | apply nD)); exact HO159.out) hb); have n7_ := am (Kd.R_below (by (with_reducible repeat (first | apply rA | apply rN | apply rD)); exact HO162.out) hb); have n8_ := am (Kd.V_below (by (with_reducible repeat (first | apply vA | apply vN | apply vD)); exact HL163_1.out) hb); have n9_ := am (Kd.V_below (by (with_reducible repeat (first | apply vA | apply vN | apply vD)); exact HL163_2.out) hb); have n10_ := am (Kd.V_below (by (with_reducible repeat (first | apply vA | apply vN | apply vD)); exact HL163_3.out) hb); have n11_ := am (blk_below (g := gb147) (o := .cells #[.bool true, .slice Ao63 t138.length co63, .slice Ao64 t141.length co64, .slice Ao65 t144.length co65] 27 (0, 0)) (by (with_reducible repeat (first | refine blk_drewN ?_ _ | refine blk_drew ?_ | refine blk_alloc ?_ _)); exact BK147.out) hb); have n12_ := am (Kd.C_below (by repeat (first | (with_reducible exact HR163_1.out) | (with_reducible refine Kd.C_alloc ?_ _) | (with_reducible refine Kd.C_drewN ?_ _) | (with_reducible refine Kd.C_drew ?_) | exact HR163_1.out)) hb); have n13_ := am (Kd.C_below (by repeat (first | (with_reducible exact HR163_2.out) | (with_reducible refine Kd.C_alloc ?_ _) | (with_reducible refine Kd.C_drewN ?_ _) | (with_reducible refine Kd.C_drew ?_) | exact HR163_2.out)) hb); have n14_ := am (Kd.C_below (by repeat (first | (with_reducible exact HR163_3.out) | (with_reducible refine Kd.C_alloc ?_ _) | (with_reducible refine Kd.C_drewN ?_ _) | (with_reducible refine Kd.C_drew ?_) | exact HR163_3.out)) hb); have n15_ := am (below_step (by repeat (first | (with_reducible first | exact HB.out | apply below_alloc | apply pw_below_drewN | apply below_drew1 | refine below_set ?_ GE147.out) | exact HB.out)) hb); clear HO127; clear HO136; clear HO140; clear HO143; clear HO146; clear HO156; clear HO159; clear HO162; clear HL163_1; clear HL163_2; clear HL163_3; clear BK147; clear HR163_1; clear HR163_2; clear HR163_3; clear HB; have HO127 := n0_; have HO136 := n1_; have HO140 := n2_; have HO143 := n3_; have HO146 := n4_; have HO156 := n5_; have HO159 := n6_; have HO162 := n7_; have HL163_1 := n8_; have HL163_2 := n9_; have HL163_3 := n10_; have BK147 := n11_; have HR163_1 := n12_; have HR163_2 := n13_; have HR163_3 := n14_; have HB := n15_; clear n0_ n1_ n2_ n3_ n4_ n5_ n6_ n7_ n8_ n9_ n10_ n11_ n12_ n13_ n14_ n15_; (try clear hb); (try clear hb2); (try clear hk); (try clear hi); obtain ⟨Ao81, co81, eo81⟩ := Kd.R_slice HO162.out; subst eo81; have p165 : 0 ≤ (2 : Int) := (by omega); have q165 : 2 < (t160.length : Int) := of_decide_eq_true (by first | (with_reducible assumption) | assumption); obtain ⟨ad165, e165, hx165_0⟩ := Kd.at_string (Kd.R_reads' HO162.out).2.2 2 p165 q165; cases e165; (try simp only [show (2 : Int).toNat = 2 from rfl, Nat.reduceMul, Nat.reduceEqDiff, Go.Addr.add, ↓reduceIte] at hx165_0); have qi165 : (2 < t160.length) = True := eq_true (by omega); (try rw [show ((2 : Int)).toNat = 2 from rfl] at hx165_0); replace p165 := eq_true p165; replace q165 := eq_true q165) | (go_at_call 33; (with_reducible refine (pick_Same.calls k _ _ t157 _ _ t157 t166 _ ?side1 ?side2 ?side3 ?side4 A47.out).mono ?_); (case side1 => repeat (first | exact (Kd.N_reads' HO159.out).2.2 | (with_reducible refine Kd.C_alloc ?_ _) | (with_reducible refine Kd.C_drewN ?_ _) | (with_reducible refine Kd.C_drew ?_))); (case side2 => exact (Kd.N_reads' HO159.out).2.1); (case side3 => repeat (first | exact (Kd.N_reads' HO159.out).2.2 | (with_reducible refine Kd.C_alloc ?_ _) | (with_reducible refine Kd.C_drewN ?_ _) | (with_reducible refine Kd.C_drew ?_))); (case side4 => exact (Kd.N_reads' HO159.out).2.1); rintro e w82 ⟨rfl, hb⟩; have n0_ := am (Kd.R_below (by (with_reducible repeat (first | apply rA | apply rN | apply rD)); exact HO127.out) hb); have n1_ := am (Kd.N_below (by (with_reducible repeat (first | apply nA | apply nN | apply nD)); exact HO136.out) hb); have n2_ := am (Kd.V_below (by (with_reducible repeat (first | apply vA | apply vN | apply vD)); exact HO140.out) hb); have n3_ := am (Kd.V_below (by (with_reducible repeat (first | apply vA | apply vN | apply vD)); exact HO143.out) hb); have n4_ := am (Kd.V_below (by (with_reducible repeat (first | apply vA | apply vN | apply vD)); exact HO146.out) hb); have n5_ := am (Kd.N_below (by (with_reducible repeat (first | apply nA | apply nN | apply nD)); exact HO156.out) hb); have n6_ := am (Kd.N_below (by (with_reducible repeat (first | apply nA | apply nN | apply nD)); exact HO159.out) hb); have n7_ := am (Kd.R_below (by (with_reducible repeat (first | apply rA | apply rN | apply rD)); exact HO162.out) hb); have n8_ := am (Kd.V_below (by (with_reducible repeat (first | apply vA | apply vN | apply vD)); exact HL163_1.out) hb); have n9_ := am (Kd.V_below (by (with_reducible repeat (first | apply vA | apply vN | apply vD)); exact HL163_2.out) hb); have n10_ := am (Kd.V_below (by (with_reducible repeat (first | apply vA | apply vN | apply vD)); exact HL163_3.out) hb); have n11_ := am (blk_below (g := gb147) (o := .cells #[.bool true, .slice Ao63 t138.length co63, .slice Ao64 t141.length co64, .slice Ao65 t144.length co65] 27 (0, 0)) (by (with_reducible repeat (first | refine blk_drewN ?_ _ | refine blk_drew ?_ | refine blk_alloc ?_ _)); exact BK147.out) hb); have n12_ := am (Kd.C_below (by repeat (first | (with_reducible exact HR163_1.out) | (with_reducible refine Kd.C_alloc ?_ _) | (with_reducible refine Kd.C_drewN ?_ _) | (with_reducible refine Kd.C_drew ?_) | exact HR163_1.out)) hb); have n13_ := am (Kd.C_below (by repeat (first | (with_reducible exact HR163_2.out) | (with_reducible refine Kd.C_alloc ?_ _) | (with_reducible refine Kd.C_drewN ?_ _) | (with_reducible refine Kd.C_drew ?_) | exact HR163_2.out)) hb); have n14_ := am (Kd.C_below (by repeat (first | (with_reducible exact HR163_3.out) | (with_reducible refine Kd.C_alloc ?_ _) | (with_reducible refine Kd.C_drewN ?_ _) | (with_reducible refine Kd.C_drew ?_) | exact HR163_3.out)) hb); have n15_ := am (below_step (by repeat (first | (with_reducible first | exact HB.out | apply below_alloc | apply pw_below_drewN | apply below_drew1 | refine below_set ?_ GE147.out) | exact HB.out)) hb); clear HO127; clear HO136; clear HO140; clear HO143; clear HO146; clear HO156; clear HO159; clear HO162; clear HL163_1; clear HL163_2; clear HL163_3; clear BK147; clear HR163_1; clear HR163_2; clear HR163_3; clear HB; have HO127 := n0_; have HO136 := n1_; have HO140 := n2_; have HO143 := n3_; have HO146 := n4_; have HO156 := n5_; have HO159 := n6_; have HO162 := n7_; have HL163_1 := n8_; have HL163_2 := n9_; have HL163_3 := n10_; have BK147 := n11_; have HR163_1 := n12_; have HR163_2 := n13_; have HR163_3 := n14_; have HB := n15_; clear n0_ n1_ n2_ n3_ n4_ n5_ n6_ n7_ n8_ n9_ n10_ n11_ n12_ n13_ n14_ n15_; (try clear hb); (try clear hb2); (try clear hk); (try clear hi)))
                    go_ret
                    exact ⟨by first | rfl | (simp [errW_none, errW_some] <;> rfl) | (simp [*, errW_none, errW_some] <;> rfl), by repeat (first | (with_reducible first | exact HB.out | apply below_alloc | apply pw_below_drewN | apply below_drew1 | refine below_set ?_ GE147.out) | exact HB.out)⟩
                  · rw [if_neg c46] at H
                    have c46b0 : ((rdOf ByteArray.empty t160 2).toList == ([99] : List UInt8)) = false := beq_eq_false_iff_ne.mpr c46
                    have c46b1 : ((rdOf ByteArray.empty t160 2).toList != ([99] : List UInt8)) = true := bne_iff_ne.mpr c46
                    exact absurd H (by simp)
                · rw [if_neg c45] at H
                  exact absurd H (by simp)
              · rw [if_neg c44] at H
                have c44b0 : ((t160.length : Int) == 3) = false := beq_eq_false_iff_ne.mpr c44
                have c44b1 : ((t160.length : Int) != 3) = true := bne_iff_ne.mpr c44
                exact absurd H (by simp)
          · rw [if_neg c8] at H
            have c8b0 : ((((rd_T27 t157 0).f1).length : Int) == 2) = false := beq_eq_false_iff_ne.mpr c8
            have c8b1 : ((((rd_T27 t157 0).f1).length : Int) != 2) = true := bne_iff_ne.mpr c8
            exact absurd H (by simp)
        · rw [if_neg c7] at H
          exact absurd H (by simp)
      · rw [if_neg c6] at H
        have c6b0 : ((t157.length : Int) == 2) = false := beq_eq_false_iff_ne.mpr c6
        have c6b1 : ((t157.length : Int) != 2) = true := bne_iff_ne.mpr c6
        exact absurd H (by simp)
    · rw [if_neg c5] at H
      have c5b0 : ((t144.length : Int) == 2) = false := beq_eq_false_iff_ne.mpr c5
      have c5b1 : ((t144.length : Int) != 2) = true := bne_iff_ne.mpr c5
      exact absurd H (by simp)
  · replace c4 := Bool.eq_false_iff.mpr c4
    subst c4
    have H1 : (none) = some r := by rw [if_neg (show ¬ (false = true) by decide)] at H; exact H
    clear H
    have H := H1
    clear H1
    exact absurd H (by simp)

end Go.Proofs.Ytiaoppikdgoieaa.M
namespace Go.Proofs.Ytiaoppikdgoieaa.M
open Go.RowKit Go.Proofs Go.Proofs.YtiaoppikdgoieaaW.PrintWords Go.Proofs.YtiaoppikdgoieaaW.PrintLast Go.Proofs.YtiaoppikdgoieaaW.PrintMore Go.Proofs.Ytiaoppikdgoieaa.Hand
attribute [local go_sem] Oper.semAt_some
set_option linter.unusedVariables false
set_option linter.unusedSimpArgs false

theorem rsame_c (a b : List ByteArray) (A0 : Option Addr) (c0 : Nat) (A1 : Option Addr) (c1 : Nat) (w : World) (hr0 : Kd.C Kd.string w A0 a.length a) (hc0 : a.length ≤ c0) (hr1 : Kd.C Kd.string w A1 b.length b) (hc1 : b.length ≤ c1) :
    Calls Try.prog 24 #[.slice A0 a.length c0, .slice A1 b.length c1] w fun e w' => e = .returned (.bool (decide (a = b))) ∧ Drawn0 w w' :=
  sennitref01_Same.calls (a.length + 1) _ _ a _ _ b _ _ hr0 hc0 hr1 hc1 (Pure.same_f a b hr0.2.1 (a.length + 1) (by omega))
theorem rall_c (a b : List (List ByteArray)) (A0 : Option Addr) (c0 : Nat) (A1 : Option Addr) (c1 : Nat) (w : World) (hr0 : Kd.C (Kd.slice 9 Kd.string) w A0 a.length a) (hc0 : a.length ≤ c0) (hr1 : Kd.C (Kd.slice 9 Kd.string) w A1 b.length b) (hc1 : b.length ≤ c1) (hs : a.length ≤ 900 ∧ ∀ x ∈ a, x.length < 900) :
    Calls Try.prog 28 #[.slice A0 a.length c0, .slice A1 b.length c1] w fun e w' => e = .returned (.bool (decide (a = b))) ∧ Drawn0 w w' :=
  sennitref06_All.calls (a.length + 1000) _ _ a _ _ b _ _ hr0 hc0 hr1 hc1 (Pure.all_f a b 900 hs.2 (by omega) (by omega) (a.length + 1000) (by omega))

def okS (l : List S27) : Prop := l.length ≤ 1000000 ∧ ∀ p ∈ l, p.f3.length ≤ 900 ∧ ∀ x ∈ p.f3, x.length < 900
instance (l : List S27) : Decidable (okS l) := inferInstanceAs (Decidable (_ ∧ _))
set_option maxHeartbeats 8000000 in
set_option maxRecDepth 100000 in
theorem rsame34_c (w : World) (A0 : Option Addr) (c0 : Nat) (l0 : List S27) (A1 : Option Addr) (c1 : Nat) (l1 : List S27) (hr0 : Kd.C k27 w A0 l0.length l0) (hc0 : l0.length ≤ c0) (hr1 : Kd.C k27 w A1 l1.length l1) (hc1 : l1.length ≤ c1) (hok : okS l0) :
    Calls Try.prog 34 #[.slice A0 l0.length c0, .slice A1 l1.length c1] w fun e w' => e = .returned (.bool (sameG l0 l1)) ∧ Drawn0 w w' := by
  have HR0 := Aside0.mk hr0
  have HR1 := Aside0.mk hr1
  have HLE := Aside0.mk hok.1
  have HOK := Aside0.mk hok.2
  clear hr0 hc0 hr1 hc1 hok
  have HG : Aside0 (sameG l0 l1 = (decide (l0.length = l1.length) && (List.zipWith sameP l0 l1).all id)) := ⟨rfl⟩
  rw [HG.out]
  by_cases hlen : l0.length = l1.length
  · have HN := Aside0.mk hlen
    have e1 : ((l0.length : Int) != (l1.length : Int)) = false := by rw [hlen]; simp
    have e2 : (l0.length != l1.length) = false := by rw [hlen]; simp
    clear hlen
    rw [decide_eq_true HN.out, Bool.true_and]
    go_enter Try.func34, Try.ntmps34
    go_wp2
    go_loopg [5] l0.length (fun kq v5 w' => ∃ i : Nat, v5 = .int .i64 (i : Int) ∧ Aside0 (i ≤ l0.length ∧ kq = l0.length - i) ∧ Aside0 ((List.zipWith sameP (l0.take i) (l1.take i)).all id = true) ∧ Drawn0 w w')
    case atStart => exact ⟨0, rfl, ⟨Nat.zero_le _, rfl⟩, ⟨by simp⟩, Drawn0.refl _⟩
    case round =>
      obtain ⟨i, rfl, HI, HA, ⟨m1, rfl⟩⟩ := hrel
      by_cases c4 : i < l0.length
      · have c4b0 : decide ((i : Int) < (l0.length : Int)) = true := decide_eq_true (by omega)
        have c4b1 : decide (i < l0.length) = true := decide_eq_true c4
        have c5 : i < l1.length := by have := HN.out; omega
        have c5b1 : decide (i < l1.length) = true := decide_eq_true c5
        obtain ⟨z, g0⟩ : ∃ z, l0[i]? = some z := ⟨_, List.getElem?_eq_getElem c4⟩
        obtain ⟨y, g1⟩ : ∃ y, l1[i]? = some y := ⟨_, List.getElem?_eq_getElem c5⟩
        obtain ⟨ad, a1, m1', a2, m2, a3, m3, rfl, hx0, hx1, hx2, hx3, hl1, hi1, hl2, hi2, hl3, hi3⟩ := C_piece HR0.out i z g0
        obtain ⟨ae, b1, n1, b2, n2, b3, n3, rfl, hy0, hy1, hy2, hy3, gl1, gi1, gl2, gi2, gl3, gi3⟩ := C_piece HR1.out i y g1
        have HSN : Aside0 ((List.zipWith sameP (l0.take (i + 1)) (l1.take (i + 1))).all id = sameP z y) := ⟨by
          rw [take_snoc l0 i z g0, take_snoc l1 i y g1, List.zipWith_append (by simp; omega)]
          have := HA.out
          simp [this]⟩
        have HIN : Aside0 (sameP z y = false → (List.zipWith sameP l0 l1).all id = false) := ⟨fun e => by
          cases hq : (List.zipWith sameP l0 l1).all id with
          | false => rfl
          | true =>
            have := List.all_eq_true.1 hq (sameP z y) (by
              refine List.mem_of_getElem? (i := i) ?_
              rw [List.getElem?_zipWith, g0, g1])
            rw [e] at this
            exact absurd this (by decide)⟩
        have HZ := Aside0.mk (HOK.out z (List.mem_of_getElem? g0))
        have T1 := Aside0.mk hi1
        have T2 := Aside0.mk hi2
        have T3 := Aside0.mk hi3
        have U1 := Aside0.mk gi1
        have U2 := Aside0.mk gi2
        have U3 := Aside0.mk gi3
        have LL := Aside0.mk (And.intro hl1 (And.intro hl2 (And.intro hl3 (And.intro gl1 (And.intro gl2 gl3)))))
        clear hi1 hi2 hi3 gi1 gi2 gi3 g0 g1 hl1 hl2 hl3 gl1 gl2 gl3
        have key : Aside0 (sameP z y = (decide (z.f0 = y.f0) && (decide (z.f1 = y.f1) && (decide (z.f2 = y.f2) && decide (z.f3 = y.f3))))) := ⟨rfl⟩
        obtain ⟨s3, h3⟩ : ∃ s3, s3 = decide (z.f3 = y.f3) := ⟨_, rfl⟩
        obtain ⟨s1, h1⟩ : ∃ s1, s1 = decide (z.f1 = y.f1) := ⟨_, rfl⟩
        obtain ⟨s2, h2⟩ : ∃ s2, s2 = decide (z.f2 = y.f2) := ⟨_, rfl⟩
        obtain ⟨p0, hp0⟩ : ∃ p0, p0 = z.f0 := ⟨_, rfl⟩
        obtain ⟨q0, hq0⟩ : ∃ q0, q0 = y.f0 := ⟨_, rfl⟩
        have KEY := Aside0.mk key.out
        rw [← h1, ← h2, ← h3, ← hp0, ← hq0] at KEY
        rw [← hp0] at hx0
        rw [← hq0] at hy0
        have H1 := Aside0.mk h1
        have H2 := Aside0.mk h2
        have H3 := Aside0.mk h3
        clear h1 h2 h3 key hp0 hq0
        cases p0 <;> cases q0 <;> cases s1 <;> cases s2 <;> cases s3
        all_goals
          go_wp2
          repeat (go_quiet (first
            | (go_at_call 24; (with_reducible refine (rsame_c z.f1 y.f1 a1 m1' b1 n1 _ ?sa ?sb ?sc ?sd).mono ?_); (case sa => with_reducible exact Kd.C_drewN T1.out _); (case sb => exact LL.out.1); (case sc => with_reducible exact Kd.C_drewN U1.out _); (case sd => exact LL.out.2.2.2.1); rintro e w' ⟨he, ⟨nd1, rfl⟩⟩; rw [← H1.out] at he; subst he; (try first | exact ⟨rfl, _, World.drewN_drewN _ _ _⟩ | exact ⟨rfl, _, Eq.trans (World.drewN_drewN _ _ _) (congrArg (World.drewN _) (Nat.add_assoc _ _ _))⟩))
            | (go_at_call 24; (with_reducible refine (rsame_c z.f2 y.f2 a2 m2 b2 n2 _ ?sa ?sb ?sc ?sd).mono ?_); (case sa => with_reducible exact Kd.C_drewN T2.out _); (case sb => exact LL.out.2.1); (case sc => with_reducible exact Kd.C_drewN U2.out _); (case sd => exact LL.out.2.2.2.2.1); rintro e w' ⟨he, ⟨nd1, rfl⟩⟩; rw [← H2.out] at he; subst he; (try first | exact ⟨rfl, _, World.drewN_drewN _ _ _⟩ | exact ⟨rfl, _, Eq.trans (World.drewN_drewN _ _ _) (congrArg (World.drewN _) (Nat.add_assoc _ _ _))⟩))
            | (go_at_call 28; (with_reducible refine (rall_c z.f3 y.f3 a3 m3 b3 n3 _ ?sa ?sb ?sc ?sd HZ.out).mono ?_); (case sa => with_reducible exact Kd.C_drewN T3.out _); (case sb => exact LL.out.2.2.1); (case sc => with_reducible exact Kd.C_drewN U3.out _); (case sd => exact LL.out.2.2.2.2.2); rintro e w' ⟨he, ⟨nd1, rfl⟩⟩; rw [← H3.out] at he; subst he; (try first | exact ⟨rfl, _, World.drewN_drewN _ _ _⟩ | exact ⟨rfl, _, Eq.trans (World.drewN_drewN _ _ _) (congrArg (World.drewN _) (Nat.add_assoc _ _ _))⟩))); try go_wp2)
        all_goals first
          | (go_ret; exact ⟨by rw [HIN.out (by rw [KEY.out]; rfl)]; rfl, by repeat (first | exact Drawn0.refl _ | apply Drawn0.step)⟩)
          | (go_roundg (l0.length - (i + 1))
             case measure => have := HI.out; omega
             case rel => exact ⟨i + 1, by have := HI.out; have := HLE.out; first | rfl | (simp; unfold wrap64; omega), ⟨by omega, rfl⟩, ⟨by rw [HSN.out, KEY.out]; rfl⟩, by repeat (first | exact Drawn0.refl _ | apply Drawn0.step)⟩)
      · have c4b0 : decide ((i : Int) < (l0.length : Int)) = false := decide_eq_false (by omega)
        have c4b1 : decide (i < l0.length) = false := decide_eq_false c4
        have HQ : Aside0 ((List.zipWith sameP l0 l1).all id = true) := ⟨by
          have := HA.out
          rwa [List.take_of_length_le (by omega), List.take_of_length_le (by have := HN.out; omega)] at this⟩
        go_wp2
        go_ret
        exact ⟨by rw [HQ.out]; rfl, ⟨⟨_, rfl⟩⟩⟩
  · have HN := Aside0.mk hlen
    have e1 : ((l0.length : Int) != (l1.length : Int)) = true := bne_iff_ne.mpr (by omega)
    have e2 : (l0.length != l1.length) = true := bne_iff_ne.mpr hlen
    clear hlen
    rw [decide_eq_false HN.out, Bool.false_and]
    go_enter Try.func34, Try.ntmps34
    go_wp2
    go_ret
    exact ⟨rfl, Drawn0.refl _⟩
def sennitref07_Same.f (k : Nat) (l0 l1 : List S27) : Option Bool := if okS l0 then some (sameG l0 l1) else none
theorem sennitref07_Same.mono : ∀ a0 a1 k, LeO (sennitref07_Same.f k a0 a1) (sennitref07_Same.f (k + 1) a0 a1) := fun _ _ _ => LeO.refl _
theorem sennitref07_Same.calls (k : Nat) (A0 : Option Addr) (c0 : Nat) (l0 : List S27) (A1 : Option Addr) (c1 : Nat) (l1 : List S27) (r : Bool) (w : World) (hr0 : Kd.C k27 w A0 l0.length l0) (hc0 : l0.length ≤ c0) (hr1 : Kd.C k27 w A1 l1.length l1) (hc1 : l1.length ≤ c1) (h : sennitref07_Same.f k l0 l1 = some r) :
    Calls Try.prog 34 #[.slice A0 l0.length c0, .slice A1 l1.length c1] w fun e w' => e = .returned (.bool r) ∧ Drawn0 w w' := by
  unfold sennitref07_Same.f at h
  split at h
  · next hb =>
    obtain rfl := Option.some.inj h
    exact rsame34_c w A0 c0 l0 A1 c1 l1 hr0 hc0 hr1 hc1 hb
  · cases h
end Go.Proofs.Ytiaoppikdgoieaa.M
namespace Go.Proofs.Ytiaoppikdgoieaa.M
open Go.RowKit Go.Proofs.YtiaoppikdgoieaaW.PrintWords Go.Proofs.YtiaoppikdgoieaaW.PrintLast Go.Proofs.YtiaoppikdgoieaaW.PrintMore
attribute [local go_sem] max2_int min2_int max_two min_two max_three min_three max_four min_four
set_option linter.unusedVariables false
set_option linter.unusedSimpArgs false

/-! ### sennitlaw07_PickTells: function 15 -/
def sennitlaw07_PickTells.f (k : Nat) (l0 : List ByteArray) (l1 : List (List ByteArray)) (a2_0 : Int) (a2_1 : Bool) : Option (Bool) := (sennitlaw07_awake.f k).bind fun t674 => ((sennitref06_Few.f k l0 l1).bind fun t675 => (if t675 = true then ((pick_Piece.f k l0 l1 a2_0 a2_1).bind fun bt676 => ((sennitref07_Piece.f k l0 l1 a2_0 a2_1).bind fun bt687 => (if t674 = true then ((sennitref07_Same.f k (([(⟨bt676.1, bt676.2.1, bt676.2.2.1, bt676.2.2.2⟩ : S27)] : List (S27))) (([(⟨bt687.1, bt687.2.1, bt687.2.2.1, bt687.2.2.2⟩ : S27)] : List (S27)))).bind fun t704 => (if t704 = true then ((pick_Clean.f k (([(⟨bt676.1, bt676.2.1, bt676.2.2.1, bt676.2.2.2⟩ : S27)] : List (S27)))).bind fun t708 => (some (t708 == (!bt687.1)))) else (none))) else (none)))) else (some t674)))
theorem sennitlaw07_PickTells.mono : ∀ a0 a1 a2 a3 k, LeO (sennitlaw07_PickTells.f k a0 a1 a2 a3) (sennitlaw07_PickTells.f (k + 1) a0 a1 a2 a3) := by
  intro a0 a1 a2 a3 k
  unfold sennitlaw07_PickTells.f
  repeat' first
      | (with_reducible exact pick_Clean.mono _ _)
      | (with_reducible exact pick_Piece.mono _ _ _ _ _)
      | (with_reducible exact sennitlaw07_awake.mono _)
      | (with_reducible exact sennitref06_Few.mono _ _ _)
      | (with_reducible exact sennitref07_Piece.mono _ _ _ _ _)
      | (with_reducible exact sennitref07_Same.mono _ _ _)
      | (with_reducible exact LeO.refl _)
      | (with_reducible exact LeO.none _)
      | (with_reducible refine LeO.ite ?_ ?_)
      | (with_reducible refine LeO.bind ?_ (fun _ => ?_))
      | exact pick_Clean.mono _ _
      | exact pick_Piece.mono _ _ _ _ _
      | exact sennitlaw07_awake.mono _
      | exact sennitref06_Few.mono _ _ _
      | exact sennitref07_Piece.mono _ _ _ _ _
      | exact sennitref07_Same.mono _ _ _
      | exact LeO.none _
      | refine LeO.ite ?_ ?_
      | refine LeO.bind ?_ (fun _ => ?_)
def sennitlaw07_PickTells.T6 : Bool × List (List Nat × List Nat) := (true, [([], []), ([0], [0]), ([1], [1]), ([2, 1], [1, 2]), ([1], [1]), ([4, 1], [1, 4]), ([3, 5, 1, 1], [1, 3, 5]), ([1, 6], [1, 6]), ([7, 6], [7]), ([8], [8]), ([9, 8], [8, 9]), ([10, 8, 8], [8, 10]), ([8], [8]), ([12, 8], [8, 12]), ([13, 8], [8, 13]), ([11, 14, 8], [8, 11, 14]), ([8, 15], [8, 15]), ([16, 11, 0, 1, 2, 3, 4, 5, 6, 7, 8, 9, 10, 11, 12, 13, 14, 15, 16], [16])])
def sennitlaw07_PickTells.B6 : List Nat := [0, 1, 3, 7, 3, 19, 63, 127, 255, 511, 1023, 2047, 511, 4607, 12799, 32767, 65535, 131071]
theorem sennitlaw07_PickTells.tab6 : rtab .any (opsOf Try.f15 6) = sennitlaw07_PickTells.T6 := by kernel_rfl
theorem sennitlaw07_PickTells.bits6 : waitsOk sennitlaw07_PickTells.T6.2 sennitlaw07_PickTells.B6 = true := by kernel_rfl
set_option maxHeartbeats 8000000 in
set_option maxRecDepth 100000 in
theorem sennitlaw07_PickTells.calls (k : Nat) (A0 : Option Addr) (c0 : Nat) (l0 : List ByteArray) (A1 : Option Addr) (c1 : Nat) (l1 : List (List ByteArray)) (a2_0 : Int) (a2_1 : Bool) (r : Bool) (w : World) (hr0 : Kd.C Kd.string w A0 l0.length l0) (hc0 : l0.length ≤ c0) (hr1 : Kd.C (Kd.slice 9 Kd.string) w A1 l1.length l1) (hc1 : l1.length ≤ c1) (h : sennitlaw07_PickTells.f k l0 l1 a2_0 a2_1 = some r) :
    Calls Try.prog 15 #[.slice A0 l0.length c0, .slice A1 l1.length c1, .agg #[.int .i64 a2_0, .bool a2_1]] w fun e w' => e = .returned (.bool r) ∧ Below w.heap.size w w' := by
  have hu30 := Try.underlying30
  have hu27 := Try.underlying27
  have HR0 := Aside0.mk hr0
  have HC0 := Aside0.mk hc0
  clear hr0 hc0
  have HR1 := Aside0.mk hr1
  have HC1 := Aside0.mk hc1
  clear hr1 hc1
  have HB := Aside0.mk (Below.refl w.heap.size w)
  have H : ((sennitlaw07_awake.f k).bind fun t674 => ((sennitref06_Few.f k l0 l1).bind fun t675 => (if t675 = true then ((pick_Piece.f k l0 l1 a2_0 a2_1).bind fun bt676 => ((sennitref07_Piece.f k l0 l1 a2_0 a2_1).bind fun bt687 => (if t674 = true then ((sennitref07_Same.f k (([(⟨bt676.1, bt676.2.1, bt676.2.2.1, bt676.2.2.2⟩ : S27)] : List (S27))) (([(⟨bt687.1, bt687.2.1, bt687.2.2.1, bt687.2.2.2⟩ : S27)] : List (S27)))).bind fun t704 => (if t704 = true then ((pick_Clean.f k (([(⟨bt676.1, bt676.2.1, bt676.2.2.1, bt676.2.2.2⟩ : S27)] : List (S27)))).bind fun t708 => (some (t708 == (!bt687.1)))) else (none))) else (none)))) else (some t674)))) = some r := h
  clear h
  replace H := Option.bind_eq_some_iff.mp H
  obtain ⟨t674, A40, H⟩ := H
  replace H : ((sennitref06_Few.f k l0 l1).bind fun t675 => (if t675 = true then ((pick_Piece.f k l0 l1 a2_0 a2_1).bind fun bt676 => ((sennitref07_Piece.f k l0 l1 a2_0 a2_1).bind fun bt687 => (if t674 = true then ((sennitref07_Same.f k (([(⟨bt676.1, bt676.2.1, bt676.2.2.1, bt676.2.2.2⟩ : S27)] : List (S27))) (([(⟨bt687.1, bt687.2.1, bt687.2.2.1, bt687.2.2.2⟩ : S27)] : List (S27)))).bind fun t704 => (if t704 = true then ((pick_Clean.f k (([(⟨bt676.1, bt676.2.1, bt676.2.2.1, bt676.2.2.2⟩ : S27)] : List (S27)))).bind fun t708 => (some (t708 == (!bt687.1)))) else (none))) else (none)))) else (some t674))) = some r := H
  have A4 := Aside0.mk A40
  clear A40
  replace H := Option.bind_eq_some_iff.mp H
  obtain ⟨t675, A50, H⟩ := H
  replace H : (if t675 = true then ((pick_Piece.f k l0 l1 a2_0 a2_1).bind fun bt676 => ((sennitref07_Piece.f k l0 l1 a2_0 a2_1).bind fun bt687 => (if t674 = true then ((sennitref07_Same.f k (([(⟨bt676.1, bt676.2.1, bt676.2.2.1, bt676.2.2.2⟩ : S27)] : List (S27))) (([(⟨bt687.1, bt687.2.1, bt687.2.2.1, bt687.2.2.2⟩ : S27)] : List (S27)))).bind fun t704 => (if t704 = true then ((pick_Clean.f k (([(⟨bt676.1, bt676.2.1, bt676.2.2.1, bt676.2.2.2⟩ : S27)] : List (S27)))).bind fun t708 => (some (t708 == (!bt687.1)))) else (none))) else (none)))) else (some t674)) = some r := H
  have A5 := Aside0.mk A50
  clear A50
  by_cases c6 : t675 = true
  · subst c6
    have H1 : ((pick_Piece.f k l0 l1 a2_0 a2_1).bind fun bt676 => ((sennitref07_Piece.f k l0 l1 a2_0 a2_1).bind fun bt687 => (if t674 = true then ((sennitref07_Same.f k (([(⟨bt676.1, bt676.2.1, bt676.2.2.1, bt676.2.2.2⟩ : S27)] : List (S27))) (([(⟨bt687.1, bt687.2.1, bt687.2.2.1, bt687.2.2.2⟩ : S27)] : List (S27)))).bind fun t704 => (if t704 = true then ((pick_Clean.f k (([(⟨bt676.1, bt676.2.1, bt676.2.2.1, bt676.2.2.2⟩ : S27)] : List (S27)))).bind fun t708 => (some (t708 == (!bt687.1)))) else (none))) else (none)))) = some r := by rw [if_pos rfl] at H; exact H
    clear H
    have H := H1
    clear H1
    replace H := Option.bind_eq_some_iff.mp H
    obtain ⟨⟨t676, t677, t680, t683⟩, A70, H⟩ := H
    replace H : ((sennitref07_Piece.f k l0 l1 a2_0 a2_1).bind fun bt687 => (if t674 = true then ((sennitref07_Same.f k (([(⟨t676, t677, t680, t683⟩ : S27)] : List (S27))) (([(⟨bt687.1, bt687.2.1, bt687.2.2.1, bt687.2.2.2⟩ : S27)] : List (S27)))).bind fun t704 => (if t704 = true then ((pick_Clean.f k (([(⟨t676, t677, t680, t683⟩ : S27)] : List (S27)))).bind fun t708 => (some (t708 == (!bt687.1)))) else (none))) else (none))) = some r := H
    have A7 := Aside0.mk A70
    clear A70
    replace H := Option.bind_eq_some_iff.mp H
    obtain ⟨⟨t687, t688, t691, t694⟩, A80, H⟩ := H
    replace H : (if t674 = true then ((sennitref07_Same.f k (([(⟨t676, t677, t680, t683⟩ : S27)] : List (S27))) (([(⟨t687, t688, t691, t694⟩ : S27)] : List (S27)))).bind fun t704 => (if t704 = true then ((pick_Clean.f k (([(⟨t676, t677, t680, t683⟩ : S27)] : List (S27)))).bind fun t708 => (some (t708 == (!t687)))) else (none))) else (none)) = some r := H
    have A8 := Aside0.mk A80
    clear A80
    by_cases c9 : t674 = true
    · subst c9
      have H1 : ((sennitref07_Same.f k (([(⟨t676, t677, t680, t683⟩ : S27)] : List (S27))) (([(⟨t687, t688, t691, t694⟩ : S27)] : List (S27)))).bind fun t704 => (if t704 = true then ((pick_Clean.f k (([(⟨t676, t677, t680, t683⟩ : S27)] : List (S27)))).bind fun t708 => (some (t708 == (!t687)))) else (none))) = some r := by rw [if_pos rfl] at H; exact H
      clear H
      have H := H1
      clear H1
      obtain ⟨y698, hy698⟩ : ∃ y_ : List (S27), y_ = (([(⟨t676, t677, t680, t683⟩ : S27)] : List (S27))) := ⟨_, rfl⟩
      replace H : ((sennitref07_Same.f k y698 (([(⟨t687, t688, t691, t694⟩ : S27)] : List (S27)))).bind fun t704 => (if t704 = true then ((pick_Clean.f k (([(⟨t676, t677, t680, t683⟩ : S27)] : List (S27)))).bind fun t708 => (some (t708 == (!t687)))) else (none))) = some r := by first | (rw [hy698]; with_reducible exact H) | (have H2_ := (Option.bind_some _ _).symm.trans H; rw [hy698]; with_reducible exact H2_) | (have H2_ := (Option.bind_some _ _).symm.trans H; with_reducible exact H2_) | with_reducible exact H | (rw [hy698]; exact H) | exact H
      have Ny698 := Aside0.mk hy698
      clear hy698
      obtain ⟨y701, hy701⟩ : ∃ y_ : List (S27), y_ = (([(⟨t687, t688, t691, t694⟩ : S27)] : List (S27))) := ⟨_, rfl⟩
      replace H : ((sennitref07_Same.f k y698 y701).bind fun t704 => (if t704 = true then ((pick_Clean.f k (([(⟨t676, t677, t680, t683⟩ : S27)] : List (S27)))).bind fun t708 => (some (t708 == (!t687)))) else (none))) = some r := by first | (rw [hy701]; with_reducible exact H) | (have H2_ := (Option.bind_some _ _).symm.trans H; rw [hy701]; with_reducible exact H2_) | (have H2_ := (Option.bind_some _ _).symm.trans H; with_reducible exact H2_) | with_reducible exact H | (rw [hy701]; exact H) | exact H
      have Ny701 := Aside0.mk hy701
      clear hy701
      replace H := Option.bind_eq_some_iff.mp H
      obtain ⟨t704, A100, H⟩ := H
      replace H : (if t704 = true then ((pick_Clean.f k (([(⟨t676, t677, t680, t683⟩ : S27)] : List (S27)))).bind fun t708 => (some (t708 == (!t687)))) else (none)) = some r := H
      have A10 := Aside0.mk A100
      clear A100
      by_cases c11 : t704 = true
      · subst c11
        have H1 : ((pick_Clean.f k (([(⟨t676, t677, t680, t683⟩ : S27)] : List (S27)))).bind fun t708 => (some (t708 == (!t687)))) = some r := by rw [if_pos rfl] at H; exact H
        clear H
        have H := H1
        clear H1
        obtain ⟨y705, hy705⟩ : ∃ y_ : List (S27), y_ = (([(⟨t676, t677, t680, t683⟩ : S27)] : List (S27))) := ⟨_, rfl⟩
        replace H : ((pick_Clean.f k y705).bind fun t708 => (some (t708 == (!t687)))) = some r := by first | (rw [hy705]; with_reducible exact H) | (have H2_ := (Option.bind_some _ _).symm.trans H; rw [hy705]; with_reducible exact H2_) | (have H2_ := (Option.bind_some _ _).symm.trans H; with_reducible exact H2_) | with_reducible exact H | (rw [hy705]; exact H) | exact H
        have Ny705 := Aside0.mk hy705
        clear hy705
        replace H := Option.bind_eq_some_iff.mp H
        obtain ⟨t708, A120, H⟩ := H
        replace H : (some (t708 == (!t687))) = some r := H
        have A12 := Aside0.mk A120
        clear A120
        obtain rfl := Option.some.inj H
        go_enter Try.func15, Try.ntmps15
        try go_wp2_with (first | ((with_reducible refine gate_dst (N := 5) rfl ?_); (try (refine gate_guard (by rfl) ?_; dsimp only)); refine box_event ?hg (N := 5) ?hd (cs := #[.int .i64 a2_0, .bool a2_1]) (t := 30) ?hr ?_; (case hd => rfl); (case hg => rfl); (case hr => first | (go_simp; done) | (go_simp; rfl)); intro gb673 hg w13 hbox hb; have n0_ := Aside0.mk (below_step (by repeat (first | (with_reducible first | exact HB.out | apply below_alloc | apply pw_below_drewN | apply below_drew1) | exact HB.out)) hb); have n1_ := Aside0.mk (hbox); have n2_ := Aside0.mk ((by rw [hg]; exact (below_size (by repeat (first | (with_reducible first | exact HB.out | apply below_alloc | apply pw_below_drewN | apply below_drew1) | exact HB.out))) : w.heap.size ≤ gb673)); have n3_ := Aside0.mk ((by rw [hg]; exact (below_size (by repeat (first | (with_reducible first | exact HB.out | apply below_alloc | apply pw_below_drewN | apply below_drew1) | exact HB.out))) : w.heap.size ≤ gb673)); clear HB; have HB := n0_; have BK673 := n1_; have GW673 := n2_; have GE673 := n3_; clear n0_ n1_ n2_ n3_; clear hb hbox hg) | ((with_reducible refine gate_callee (f := 19) rfl ?_); refine goesL_ (some 10) rfl rfl Try.func19 (by kernel_rfl) rfl #[] rfl (by (try simp only [List.map_toArray, List.map_cons, List.map_nil]); first | done | rfl | (simp only [List.length_drop, List.length_take]; rfl)) ?_; (with_reducible refine (sennitlaw07_awake.calls k  true _ A4.out).mono ?_); rintro e w14 ⟨rfl, hb⟩; refine ⟨_, rfl, ?_⟩; have n0_ := Aside0.mk (blk_below (g := gb673) (o := .cells #[.int .i64 a2_0, .bool a2_1] 30 (0, 0)) (by (with_reducible repeat (first | refine blk_drewN ?_ _ | refine blk_drew ?_ | refine blk_alloc ?_ _)); exact BK673.out) hb); have n1_ := Aside0.mk (below_step (by repeat (first | (with_reducible first | exact HB.out | apply below_alloc | apply pw_below_drewN | apply below_drew1 | refine below_set ?_ GE673.out) | exact HB.out)) hb); clear BK673; clear HB; have BK673 := n0_; have HB := n1_; clear n0_ n1_; (try clear hb); (try clear hb2); (try clear hk); (try clear hi)) | ((with_reducible refine gate_callee (f := 20) rfl ?_); refine goesL_ (some 13) rfl rfl Try.func20 (by kernel_rfl) rfl #[.slice A0 l0.length c0, .slice A1 l1.length c1] rfl (by (try simp only [List.map_toArray, List.map_cons, List.map_nil]); first | done | rfl | (simp only [List.length_drop, List.length_take]; rfl)) ?_; (with_reducible refine (sennitref06_Few.calls k _ _ l0 _ _ l1 true _ ?side1 ?side2 ?side3 ?side4 A5.out).mono ?_); (case side1 => repeat (first | exact (Kd.C_below HR0.out HB.out) | (with_reducible refine Kd.C_alloc ?_ _) | (with_reducible refine Kd.C_drewN ?_ _) | (with_reducible refine Kd.C_drew ?_))); (case side2 => exact HC0.out); (case side3 => repeat (first | exact (Kd.C_below HR1.out HB.out) | (with_reducible refine Kd.C_alloc ?_ _) | (with_reducible refine Kd.C_drewN ?_ _) | (with_reducible refine Kd.C_drew ?_))); (case side4 => exact HC1.out); rintro e w' ⟨rfl, ⟨nd, rfl⟩⟩; refine ⟨_, rfl, ?_⟩; (try (rw [drewN_self w14]; generalize hq_ : World.drewN w14 _ = w14; have n0_ : Aside0 (w14.heap[gb673]? = some (.cells #[.int .i64 a2_0, .bool a2_1] 30 (0, 0))) := ⟨by rw [← hq_]; exact (by (with_reducible repeat (first | refine blk_drewN ?_ _ | refine blk_drew ?_ | refine blk_alloc ?_ _)); exact BK673.out)⟩; have n1_ : Aside0 (Below w.heap.size w w14) := ⟨by rw [← hq_]; exact (by repeat (first | (with_reducible first | exact HB.out | apply below_alloc | apply pw_below_drewN | apply below_drew1 | refine below_set ?_ GE673.out) | exact HB.out))⟩; clear BK673 HB hq_; have BK673 := n0_; have HB := n1_; clear n0_ n1_)); have hcz15_0 : w14.cell? ⟨gb673, 0, none⟩ = some (.int .i64 a2_0) := (blk_cell BK673.out 0).trans rfl; have hcz15_1 : w14.cell? ⟨gb673, 1, none⟩ = some (.bool a2_1) := (blk_cell BK673.out 1).trans rfl; have hfz15_0 := blk_frozen BK673.out 0; have hfz15_1 := blk_frozen BK673.out 1) | ((with_reducible refine gate_callee (f := 21) rfl ?_); refine goesL_ (some 19) rfl rfl Try.func21 (by kernel_rfl) rfl #[.slice A0 l0.length c0, .slice A1 l1.length c1, .agg #[.int .i64 a2_0, .bool a2_1]] rfl (by (try simp only [List.map_toArray, List.map_cons, List.map_nil]); first | done | rfl | (simp only [List.length_drop, List.length_take]; rfl)) ?_; (with_reducible refine (pick_Piece.calls k (fun k_ => k_ < w.heap.size) _ _ l0 (fun k_ => k_ < w.heap.size) _ _ l1 a2_0 a2_1 t676 t677 t680 t683 _ ?side1 ?side2 A7.out).mono ?_); (case side1 => exact Kd.V_mk HC0.out (Kd.F_below (Kd.C_F Kd.heap_string HR0.out) (by repeat (first | (with_reducible first | exact HB.out | apply below_alloc | apply pw_below_drewN | apply below_drew1 | refine below_set ?_ GE673.out) | exact HB.out)))); (case side2 => exact Kd.V_mk HC1.out (Kd.F_below (Kd.C_F (Kd.heap_slice 9 Kd.heap_string) HR1.out) (by repeat (first | (with_reducible first | exact HB.out | apply below_alloc | apply pw_below_drewN | apply below_drew1 | refine below_set ?_ GE673.out) | exact HB.out)))); rintro e w16 ⟨v678, v681, v684, rfl, ho0, ho1, ho2, hb⟩; refine ⟨_, rfl, ?_⟩; have n0_ := Aside0.mk (Kd.V_lower (Kd.V_mono (ok' := fun k_ => k_ ≠ gb673) ho0 (fun k_ hk_ => Or.elim hk_ (fun hs_ => Or.elim hs_ (fun hs_ => fun e_ => Nat.not_le.2 hs_ (by rw [e_]; exact GW673.out)) (fun hs_ => fun e_ => Nat.not_le.2 hs_ (by rw [e_]; exact GW673.out))) (fun hn_ => (Kd.freshB (g := gb673) (o := .cells #[.int .i64 a2_0, .bool a2_1] 30 (0, 0)) (by (with_reducible repeat (first | refine blk_drewN ?_ _ | refine blk_drew ?_ | refine blk_alloc ?_ _)); exact BK673.out) k_ hn_)))) (below_size (by repeat (first | (with_reducible first | exact HB.out | apply below_alloc | apply pw_below_drewN | apply below_drew1 | refine below_set ?_ GE673.out) | exact HB.out)))); have n1_ := Aside0.mk (Kd.V_lower (Kd.V_mono (ok' := fun k_ => k_ ≠ gb673) ho1 (fun k_ hk_ => Or.elim hk_ (fun hs_ => Or.elim hs_ (fun hs_ => fun e_ => Nat.not_le.2 hs_ (by rw [e_]; exact GW673.out)) (fun hs_ => fun e_ => Nat.not_le.2 hs_ (by rw [e_]; exact GW673.out))) (fun hn_ => (Kd.freshB (g := gb673) (o := .cells #[.int .i64 a2_0, .bool a2_1] 30 (0, 0)) (by (with_reducible repeat (first | refine blk_drewN ?_ _ | refine blk_drew ?_ | refine blk_alloc ?_ _)); exact BK673.out) k_ hn_)))) (below_size (by repeat (first | (with_reducible first | exact HB.out | apply below_alloc | apply pw_below_drewN | apply below_drew1 | refine below_set ?_ GE673.out) | exact HB.out)))); have n2_ := Aside0.mk (Kd.V_lower (Kd.V_mono (ok' := fun k_ => k_ ≠ gb673) ho2 (fun k_ hk_ => Or.elim hk_ (fun hs_ => Or.elim hs_ (fun hs_ => fun e_ => Nat.not_le.2 hs_ (by rw [e_]; exact GW673.out)) (fun hs_ => fun e_ => Nat.not_le.2 hs_ (by rw [e_]; exact GW673.out))) (fun hn_ => (Kd.freshB (g := gb673) (o := .cells #[.int .i64 a2_0, .bool a2_1] 30 (0, 0)) (by (with_reducible repeat (first | refine blk_drewN ?_ _ | refine blk_drew ?_ | refine blk_alloc ?_ _)); exact BK673.out) k_ hn_)))) (below_size (by repeat (first | (with_reducible first | exact HB.out | apply below_alloc | apply pw_below_drewN | apply below_drew1 | refine below_set ?_ GE673.out) | exact HB.out)))); have n3_ := Aside0.mk (blk_below (g := gb673) (o := .cells #[.int .i64 a2_0, .bool a2_1] 30 (0, 0)) (by (with_reducible repeat (first | refine blk_drewN ?_ _ | refine blk_drew ?_ | refine blk_alloc ?_ _)); exact BK673.out) hb); have n4_ := Aside0.mk (below_step (by repeat (first | (with_reducible first | exact HB.out | apply below_alloc | apply pw_below_drewN | apply below_drew1 | refine below_set ?_ GE673.out) | exact HB.out)) hb); clear BK673; clear HB; have HO679 := n0_; have HO682 := n1_; have HO685 := n2_; have BK673 := n3_; have HB := n4_; clear n0_ n1_ n2_ n3_ n4_; (try clear hb); (try clear hb2); (try clear hk); (try clear hi); (try clear ho0); (try clear ho1); (try clear ho2)) | ((with_reducible refine gate_dst (N := 8) rfl ?_); (try (refine gate_guard (by rfl) ?_; dsimp only)); refine box_event ?hg (N := 8) ?hd (cs := #[.bool false, .slice none 0 0, .slice none 0 0, .slice none 0 0]) (t := 27) ?hr ?_; (case hd => rfl); (case hg => rfl); (case hr => first | (go_simp; done) | (go_simp; rfl)); intro gb686 hg w17 hbox hb; have n0_ := Aside0.mk (Kd.V_below (Kd.V_elderB (by (with_reducible repeat (first | apply Kd.V_alloc | apply Kd.V_drewN | apply Kd.V_drew)); exact HO679.out) gb686 (Nat.le_of_eq hg.symm)) hb); have n1_ := Aside0.mk (Kd.V_below (Kd.V_elderB (by (with_reducible repeat (first | apply Kd.V_alloc | apply Kd.V_drewN | apply Kd.V_drew)); exact HO682.out) gb686 (Nat.le_of_eq hg.symm)) hb); have n2_ := Aside0.mk (Kd.V_below (Kd.V_elderB (by (with_reducible repeat (first | apply Kd.V_alloc | apply Kd.V_drewN | apply Kd.V_drew)); exact HO685.out) gb686 (Nat.le_of_eq hg.symm)) hb); have n3_ := Aside0.mk (blk_below (g := gb673) (o := .cells #[.int .i64 a2_0, .bool a2_1] 30 (0, 0)) (by (with_reducible repeat (first | refine blk_drewN ?_ _ | refine blk_drew ?_ | refine blk_alloc ?_ _)); exact BK673.out) hb); have n4_ := Aside0.mk (below_step (by repeat (first | (with_reducible first | exact HB.out | apply below_alloc | apply pw_below_drewN | apply below_drew1 | refine below_set ?_ GE673.out) | exact HB.out)) hb); have n5_ := Aside0.mk (hbox); have n6_ := Aside0.mk ((by rw [hg]; exact (below_size (by repeat (first | (with_reducible first | exact HB.out | apply below_alloc | apply pw_below_drewN | apply below_drew1 | refine below_set ?_ GE673.out) | exact HB.out))) : w.heap.size ≤ gb686)); have n7_ := Aside0.mk ((by rw [hg]; exact (below_size (by repeat (first | (with_reducible first | exact HB.out | apply below_alloc | apply pw_below_drewN | apply below_drew1 | refine below_set ?_ GE673.out) | exact HB.out))) : w.heap.size ≤ gb686)); have n8_ := Aside0.mk ((by rw [hg]; exact Nat.ne_of_lt (blk_lt (g := gb673) (o := .cells #[.int .i64 a2_0, .bool a2_1] 30 (0, 0)) (by (with_reducible repeat (first | refine blk_drewN ?_ _ | refine blk_drew ?_ | refine blk_alloc ?_ _)); exact BK673.out)) : gb673 ≠ gb686)); have n9_ := Aside0.mk ((by rw [hg]; exact Nat.ne_of_gt (blk_lt (g := gb673) (o := .cells #[.int .i64 a2_0, .bool a2_1] 30 (0, 0)) (by (with_reducible repeat (first | refine blk_drewN ?_ _ | refine blk_drew ?_ | refine blk_alloc ?_ _)); exact BK673.out)) : gb686 ≠ gb673)); clear HO679; clear HO682; clear HO685; clear BK673; clear HB; have HO679 := n0_; have HO682 := n1_; have HO685 := n2_; have BK673 := n3_; have HB := n4_; have BK686 := n5_; have GW686 := n6_; have GE686 := n7_; have NB673_686 := n8_; have NB686_673 := n9_; clear n0_ n1_ n2_ n3_ n4_ n5_ n6_ n7_ n8_ n9_; clear hb hbox hg; have hnb18 := NB686_673.out; have hnc18 := NB673_686.out; have hcz19_0 : w17.cell? ⟨gb686, 0, none⟩ = some (.bool false) := (blk_cell BK686.out 0).trans rfl; have hcz19_1 : w17.cell? ⟨gb686, 1, none⟩ = some (.slice none 0 0) := (blk_cell BK686.out 1).trans rfl; have hcz19_2 : w17.cell? ⟨gb686, 2, none⟩ = some (.slice none 0 0) := (blk_cell BK686.out 2).trans rfl; have hcz19_3 : w17.cell? ⟨gb686, 3, none⟩ = some (.slice none 0 0) := (blk_cell BK686.out 3).trans rfl; have hfz19_0 := blk_frozen BK686.out 0; have hfz19_1 := blk_frozen BK686.out 1; have hfz19_2 := blk_frozen BK686.out 2; have hfz19_3 := blk_frozen BK686.out 3; obtain ⟨Ao20, co20, eo20⟩ := Kd.V_slice HO679.out; subst eo20; obtain ⟨Ao21, co21, eo21⟩ := Kd.V_slice HO682.out; subst eo21; obtain ⟨Ao22, co22, eo22⟩ := Kd.V_slice HO685.out; subst eo22) | ((with_reducible refine gate_store (t := 27) (p := 8) rfl ?_); refine store_event (t := 27) (p := 8) (v := ?vo_w23) (w1 := ((((w17.setCell ⟨gb686, 0, none⟩ (.bool t676)).setCell ⟨gb686, 1, none⟩ (.slice Ao20 t677.length co20)).setCell ⟨gb686, 2, none⟩ (.slice Ao21 t680.length co21)).setCell ⟨gb686, 3, none⟩ (.slice Ao22 t683.length co22))) ?hg ?ho ?hn ?hr ?_; (case ho => rfl); (case hg => rfl); (case hn => rfl); (case hr => first | (go_simp; done) | (go_simp; rfl)); intro w23 hw; have n0_ : Aside0 (Kd.V Kd.string 9 w23 w.heap.size (fun k_ => k_ ≠ gb673 ∧ k_ ≠ gb686) (.slice Ao20 t677.length co20) t677) := ⟨(by rw [hw]; exact (by (with_reducible repeat (first | apply Kd.V_alloc | apply Kd.V_drewN | apply Kd.V_drew)); exact Kd.V_mono (Kd.V_far (p := ⟨gb686, 3, none⟩) (Kd.V_far (p := ⟨gb686, 2, none⟩) (Kd.V_far (p := ⟨gb686, 1, none⟩) (Kd.V_far (p := ⟨gb686, 0, none⟩) (Kd.V_mono HO679.out (fun k_ hk => (⟨hk, hk.2⟩ : _ ∧ k_ ≠ gb686))) (fun _ hk => hk.2) (.bool t676)) (fun _ hk => hk.2) (.slice Ao20 t677.length co20)) (fun _ hk => hk.2) (.slice Ao21 t680.length co21)) (fun _ hk => hk.2) (.slice Ao22 t683.length co22)) (fun _ hk => ⟨hk.1.1, hk.1.2⟩)))⟩; have n1_ : Aside0 (Kd.V Kd.string 9 w23 w.heap.size (fun k_ => k_ ≠ gb673 ∧ k_ ≠ gb686) (.slice Ao21 t680.length co21) t680) := ⟨(by rw [hw]; exact (by (with_reducible repeat (first | apply Kd.V_alloc | apply Kd.V_drewN | apply Kd.V_drew)); exact Kd.V_mono (Kd.V_far (p := ⟨gb686, 3, none⟩) (Kd.V_far (p := ⟨gb686, 2, none⟩) (Kd.V_far (p := ⟨gb686, 1, none⟩) (Kd.V_far (p := ⟨gb686, 0, none⟩) (Kd.V_mono HO682.out (fun k_ hk => (⟨hk, hk.2⟩ : _ ∧ k_ ≠ gb686))) (fun _ hk => hk.2) (.bool t676)) (fun _ hk => hk.2) (.slice Ao20 t677.length co20)) (fun _ hk => hk.2) (.slice Ao21 t680.length co21)) (fun _ hk => hk.2) (.slice Ao22 t683.length co22)) (fun _ hk => ⟨hk.1.1, hk.1.2⟩)))⟩; have n2_ : Aside0 (Kd.V (Kd.slice 9 Kd.string) 22 w23 w.heap.size (fun k_ => k_ ≠ gb673 ∧ k_ ≠ gb686) (.slice Ao22 t683.length co22) t683) := ⟨(by rw [hw]; exact (by (with_reducible repeat (first | apply Kd.V_alloc | apply Kd.V_drewN | apply Kd.V_drew)); exact Kd.V_mono (Kd.V_far (p := ⟨gb686, 3, none⟩) (Kd.V_far (p := ⟨gb686, 2, none⟩) (Kd.V_far (p := ⟨gb686, 1, none⟩) (Kd.V_far (p := ⟨gb686, 0, none⟩) (Kd.V_mono HO685.out (fun k_ hk => (⟨hk, hk.2⟩ : _ ∧ k_ ≠ gb686))) (fun _ hk => hk.2) (.bool t676)) (fun _ hk => hk.2) (.slice Ao20 t677.length co20)) (fun _ hk => hk.2) (.slice Ao21 t680.length co21)) (fun _ hk => hk.2) (.slice Ao22 t683.length co22)) (fun _ hk => ⟨hk.1.1, hk.1.2⟩)))⟩; have n3_ : Aside0 (w23.heap[gb673]? = some (.cells #[.int .i64 a2_0, .bool a2_1] 30 (0, 0))) := ⟨(by rw [hw]; exact (by (with_reducible repeat (first | refine blk_drewN ?_ _ | refine blk_drew ?_ | refine blk_alloc ?_ _)); refine blk_far ?_ NB673_686.out _; (with_reducible repeat (first | refine blk_drewN ?_ _ | refine blk_drew ?_ | refine blk_alloc ?_ _)); refine blk_far ?_ NB673_686.out _; (with_reducible repeat (first | refine blk_drewN ?_ _ | refine blk_drew ?_ | refine blk_alloc ?_ _)); refine blk_far ?_ NB673_686.out _; (with_reducible repeat (first | refine blk_drewN ?_ _ | refine blk_drew ?_ | refine blk_alloc ?_ _)); refine blk_far ?_ NB673_686.out _; (with_reducible repeat (first | refine blk_drewN ?_ _ | refine blk_drew ?_ | refine blk_alloc ?_ _)); exact BK673.out))⟩; have n4_ : Aside0 (w23.heap[gb686]? = some (.cells #[.bool t676, .slice Ao20 t677.length co20, .slice Ao21 t680.length co21, .slice Ao22 t683.length co22] 27 (0, 0))) := ⟨(by rw [hw]; exact (by (with_reducible repeat (first | refine blk_drewN ?_ _ | refine blk_drew ?_ | refine blk_alloc ?_ _)); refine blk_put (cs := #[.bool t676, .slice Ao20 t677.length co20, .slice Ao21 t680.length co21, .slice none 0 0]) ?_ 3 _ rfl; (with_reducible repeat (first | refine blk_drewN ?_ _ | refine blk_drew ?_ | refine blk_alloc ?_ _)); refine blk_put (cs := #[.bool t676, .slice Ao20 t677.length co20, .slice none 0 0, .slice none 0 0]) ?_ 2 _ rfl; (with_reducible repeat (first | refine blk_drewN ?_ _ | refine blk_drew ?_ | refine blk_alloc ?_ _)); refine blk_put (cs := #[.bool t676, .slice none 0 0, .slice none 0 0, .slice none 0 0]) ?_ 1 _ rfl; (with_reducible repeat (first | refine blk_drewN ?_ _ | refine blk_drew ?_ | refine blk_alloc ?_ _)); refine blk_put (cs := #[.bool false, .slice none 0 0, .slice none 0 0, .slice none 0 0]) ?_ 0 _ rfl; (with_reducible repeat (first | refine blk_drewN ?_ _ | refine blk_drew ?_ | refine blk_alloc ?_ _)); exact BK686.out))⟩; have n5_ : Aside0 (Below w.heap.size w w23) := ⟨(by rw [hw]; exact (by repeat (first | (with_reducible first | exact HB.out | apply below_alloc | apply pw_below_drewN | apply below_drew1 | refine below_set ?_ GE673.out | refine below_set ?_ GE686.out) | exact HB.out)))⟩; clear hw; clear HO679; clear HO682; clear HO685; clear BK673; clear BK686; clear HB; have HO679 := n0_; have HO682 := n1_; have HO685 := n2_; have BK673 := n3_; have BK686 := n4_; have HB := n5_; clear n0_ n1_ n2_ n3_ n4_ n5_; have hcz24_0 : w23.cell? ⟨gb673, 0, none⟩ = some (.int .i64 a2_0) := (blk_cell BK673.out 0).trans rfl; have hcz24_1 : w23.cell? ⟨gb673, 1, none⟩ = some (.bool a2_1) := (blk_cell BK673.out 1).trans rfl; have hfz24_0 := blk_frozen BK673.out 0; have hfz24_1 := blk_frozen BK673.out 1) | ((with_reducible refine gate_callee (f := 46) rfl ?_); refine goesL_ (some 23) rfl rfl Try.func46 (by kernel_rfl) rfl #[.slice A0 l0.length c0, .slice A1 l1.length c1, .agg #[.int .i64 a2_0, .bool a2_1]] rfl (by (try simp only [List.map_toArray, List.map_cons, List.map_nil]); first | done | rfl | (simp only [List.length_drop, List.length_take]; rfl)) ?_; (with_reducible refine (sennitref07_Piece.calls k (fun k_ => k_ < w.heap.size) _ _ l0 (fun k_ => k_ < w.heap.size) _ _ l1 a2_0 a2_1 t687 t688 t691 t694 _ ?side1 ?side2 A8.out).mono ?_); (case side1 => exact Kd.V_mk HC0.out (Kd.F_below (Kd.C_F Kd.heap_string HR0.out) (by repeat (first | (with_reducible first | exact HB.out | apply below_alloc | apply pw_below_drewN | apply below_drew1 | refine below_set ?_ GE673.out | refine below_set ?_ GE686.out) | exact HB.out)))); (case side2 => exact Kd.V_mk HC1.out (Kd.F_below (Kd.C_F (Kd.heap_slice 9 Kd.heap_string) HR1.out) (by repeat (first | (with_reducible first | exact HB.out | apply below_alloc | apply pw_below_drewN | apply below_drew1 | refine below_set ?_ GE673.out | refine below_set ?_ GE686.out) | exact HB.out)))); rintro e w25 ⟨v689, v692, v695, rfl, ho0, ho1, ho2, hb⟩; refine ⟨_, rfl, ?_⟩; have n0_ := Aside0.mk (Kd.V_below (by (with_reducible repeat (first | apply Kd.V_alloc | apply Kd.V_drewN | apply Kd.V_drew)); exact HO679.out) hb); have n1_ := Aside0.mk (Kd.V_below (by (with_reducible repeat (first | apply Kd.V_alloc | apply Kd.V_drewN | apply Kd.V_drew)); exact HO682.out) hb); have n2_ := Aside0.mk (Kd.V_below (by (with_reducible repeat (first | apply Kd.V_alloc | apply Kd.V_drewN | apply Kd.V_drew)); exact HO685.out) hb); have n3_ := Aside0.mk (Kd.V_lower (Kd.V_mono (ok' := fun k_ => k_ ≠ gb673 ∧ k_ ≠ gb686) ho0 (fun k_ hk_ => ⟨Or.elim hk_ (fun hs_ => Or.elim hs_ (fun hs_ => fun e_ => Nat.not_le.2 hs_ (by rw [e_]; exact GW673.out)) (fun hs_ => fun e_ => Nat.not_le.2 hs_ (by rw [e_]; exact GW673.out))) (fun hn_ => (Kd.freshB (g := gb673) (o := .cells #[.int .i64 a2_0, .bool a2_1] 30 (0, 0)) (by (with_reducible repeat (first | refine blk_drewN ?_ _ | refine blk_drew ?_ | refine blk_alloc ?_ _)); exact BK673.out) k_ hn_)), Or.elim hk_ (fun hs_ => Or.elim hs_ (fun hs_ => fun e_ => Nat.not_le.2 hs_ (by rw [e_]; exact GW686.out)) (fun hs_ => fun e_ => Nat.not_le.2 hs_ (by rw [e_]; exact GW686.out))) (fun hn_ => (Kd.freshB (g := gb686) (o := .cells #[.bool t676, .slice Ao20 t677.length co20, .slice Ao21 t680.length co21, .slice Ao22 t683.length co22] 27 (0, 0)) (by (with_reducible repeat (first | refine blk_drewN ?_ _ | refine blk_drew ?_ | refine blk_alloc ?_ _)); exact BK686.out) k_ hn_))⟩)) (below_size (by repeat (first | (with_reducible first | exact HB.out | apply below_alloc | apply pw_below_drewN | apply below_drew1 | refine below_set ?_ GE673.out | refine below_set ?_ GE686.out) | exact HB.out)))); have n4_ := Aside0.mk (Kd.V_lower (Kd.V_mono (ok' := fun k_ => k_ ≠ gb673 ∧ k_ ≠ gb686) ho1 (fun k_ hk_ => ⟨Or.elim hk_ (fun hs_ => Or.elim hs_ (fun hs_ => fun e_ => Nat.not_le.2 hs_ (by rw [e_]; exact GW673.out)) (fun hs_ => fun e_ => Nat.not_le.2 hs_ (by rw [e_]; exact GW673.out))) (fun hn_ => (Kd.freshB (g := gb673) (o := .cells #[.int .i64 a2_0, .bool a2_1] 30 (0, 0)) (by (with_reducible repeat (first | refine blk_drewN ?_ _ | refine blk_drew ?_ | refine blk_alloc ?_ _)); exact BK673.out) k_ hn_)), Or.elim hk_ (fun hs_ => Or.elim hs_ (fun hs_ => fun e_ => Nat.not_le.2 hs_ (by rw [e_]; exact GW686.out)) (fun hs_ => fun e_ => Nat.not_le.2 hs_ (by rw [e_]; exact GW686.out))) (fun hn_ => (Kd.freshB (g := gb686) (o := .cells #[.bool t676, .slice Ao20 t677.length co20, .slice Ao21 t680.length co21, .slice Ao22 t683.length co22] 27 (0, 0)) (by (with_reducible repeat (first | refine blk_drewN ?_ _ | refine blk_drew ?_ | refine blk_alloc ?_ _)); exact BK686.out) k_ hn_))⟩)) (below_size (by repeat (first | (with_reducible first | exact HB.out | apply below_alloc | apply pw_below_drewN | apply below_drew1 | refine below_set ?_ GE673.out | refine below_set ?_ GE686.out) | exact HB.out)))); have n5_ := Aside0.mk (Kd.V_lower (Kd.V_mono (ok' := fun k_ => k_ ≠ gb673 ∧ k_ ≠ gb686) ho2 (fun k_ hk_ => ⟨Or.elim hk_ (fun hs_ => Or.elim hs_ (fun hs_ => fun e_ => Nat.not_le.2 hs_ (by rw [e_]; exact GW673.out)) (fun hs_ => fun e_ => Nat.not_le.2 hs_ (by rw [e_]; exact GW673.out))) (fun hn_ => (Kd.freshB (g := gb673) (o := .cells #[.int .i64 a2_0, .bool a2_1] 30 (0, 0)) (by (with_reducible repeat (first | refine blk_drewN ?_ _ | refine blk_drew ?_ | refine blk_alloc ?_ _)); exact BK673.out) k_ hn_)), Or.elim hk_ (fun hs_ => Or.elim hs_ (fun hs_ => fun e_ => Nat.not_le.2 hs_ (by rw [e_]; exact GW686.out)) (fun hs_ => fun e_ => Nat.not_le.2 hs_ (by rw [e_]; exact GW686.out))) (fun hn_ => (Kd.freshB (g := gb686) (o := .cells #[.bool t676, .slice Ao20 t677.length co20, .slice Ao21 t680.length co21, .slice Ao22 t683.length co22] 27 (0, 0)) (by (with_reducible repeat (first | refine blk_drewN ?_ _ | refine blk_drew ?_ | refine blk_alloc ?_ _)); exact BK686.out) k_ hn_))⟩)) (below_size (by repeat (first | (with_reducible first | exact HB.out | apply below_alloc | apply pw_below_drewN | apply below_drew1 | refine below_set ?_ GE673.out | refine below_set ?_ GE686.out) | exact HB.out)))); have n6_ := Aside0.mk (blk_below (g := gb673) (o := .cells #[.int .i64 a2_0, .bool a2_1] 30 (0, 0)) (by (with_reducible repeat (first | refine blk_drewN ?_ _ | refine blk_drew ?_ | refine blk_alloc ?_ _)); exact BK673.out) hb); have n7_ := Aside0.mk (blk_below (g := gb686) (o := .cells #[.bool t676, .slice Ao20 t677.length co20, .slice Ao21 t680.length co21, .slice Ao22 t683.length co22] 27 (0, 0)) (by (with_reducible repeat (first | refine blk_drewN ?_ _ | refine blk_drew ?_ | refine blk_alloc ?_ _)); exact BK686.out) hb); have n8_ := Aside0.mk (below_step (by repeat (first | (with_reducible first | exact HB.out | apply below_alloc | apply pw_below_drewN | apply below_drew1 | refine below_set ?_ GE673.out | refine below_set ?_ GE686.out) | exact HB.out)) hb); clear HO679; clear HO682; clear HO685; clear BK673; clear BK686; clear HB; have HO679 := n0_; have HO682 := n1_; have HO685 := n2_; have HO690 := n3_; have HO693 := n4_; have HO696 := n5_; have BK673 := n6_; have BK686 := n7_; have HB := n8_; clear n0_ n1_ n2_ n3_ n4_ n5_ n6_ n7_ n8_; (try clear hb); (try clear hb2); (try clear hk); (try clear hi); (try clear ho0); (try clear ho1); (try clear ho2)) | ((with_reducible refine gate_dst (N := 9) rfl ?_); (try (refine gate_guard (by rfl) ?_; dsimp only)); refine box_event ?hg (N := 9) ?hd (cs := #[.bool false, .slice none 0 0, .slice none 0 0, .slice none 0 0]) (t := 27) ?hr ?_; (case hd => rfl); (case hg => rfl); (case hr => first | (go_simp; done) | (go_simp; rfl)); intro gb697 hg w26 hbox hb; have n0_ := Aside0.mk (Kd.V_below (Kd.V_elderB (by (with_reducible repeat (first | apply Kd.V_alloc | apply Kd.V_drewN | apply Kd.V_drew)); exact HO679.out) gb697 (Nat.le_of_eq hg.symm)) hb); have n1_ := Aside0.mk (Kd.V_below (Kd.V_elderB (by (with_reducible repeat (first | apply Kd.V_alloc | apply Kd.V_drewN | apply Kd.V_drew)); exact HO682.out) gb697 (Nat.le_of_eq hg.symm)) hb); have n2_ := Aside0.mk (Kd.V_below (Kd.V_elderB (by (with_reducible repeat (first | apply Kd.V_alloc | apply Kd.V_drewN | apply Kd.V_drew)); exact HO685.out) gb697 (Nat.le_of_eq hg.symm)) hb); have n3_ := Aside0.mk (Kd.V_below (Kd.V_elderB (by (with_reducible repeat (first | apply Kd.V_alloc | apply Kd.V_drewN | apply Kd.V_drew)); exact HO690.out) gb697 (Nat.le_of_eq hg.symm)) hb); have n4_ := Aside0.mk (Kd.V_below (Kd.V_elderB (by (with_reducible repeat (first | apply Kd.V_alloc | apply Kd.V_drewN | apply Kd.V_drew)); exact HO693.out) gb697 (Nat.le_of_eq hg.symm)) hb); have n5_ := Aside0.mk (Kd.V_below (Kd.V_elderB (by (with_reducible repeat (first | apply Kd.V_alloc | apply Kd.V_drewN | apply Kd.V_drew)); exact HO696.out) gb697 (Nat.le_of_eq hg.symm)) hb); have n6_ := Aside0.mk (blk_below (g := gb673) (o := .cells #[.int .i64 a2_0, .bool a2_1] 30 (0, 0)) (by (with_reducible repeat (first | refine blk_drewN ?_ _ | refine blk_drew ?_ | refine blk_alloc ?_ _)); exact BK673.out) hb); have n7_ := Aside0.mk (blk_below (g := gb686) (o := .cells #[.bool t676, .slice Ao20 t677.length co20, .slice Ao21 t680.length co21, .slice Ao22 t683.length co22] 27 (0, 0)) (by (with_reducible repeat (first | refine blk_drewN ?_ _ | refine blk_drew ?_ | refine blk_alloc ?_ _)); exact BK686.out) hb); have n8_ := Aside0.mk (below_step (by repeat (first | (with_reducible first | exact HB.out | apply below_alloc | apply pw_below_drewN | apply below_drew1 | refine below_set ?_ GE673.out | refine below_set ?_ GE686.out) | exact HB.out)) hb); have n9_ := Aside0.mk (hbox); have n10_ := Aside0.mk ((by rw [hg]; exact (below_size (by repeat (first | (with_reducible first | exact HB.out | apply below_alloc | apply pw_below_drewN | apply below_drew1 | refine below_set ?_ GE673.out | refine below_set ?_ GE686.out) | exact HB.out))) : w.heap.size ≤ gb697)); have n11_ := Aside0.mk ((by rw [hg]; exact (below_size (by repeat (first | (with_reducible first | exact HB.out | apply below_alloc | apply pw_below_drewN | apply below_drew1 | refine below_set ?_ GE673.out | refine below_set ?_ GE686.out) | exact HB.out))) : w.heap.size ≤ gb697)); have n12_ := Aside0.mk ((by rw [hg]; exact Nat.ne_of_lt (blk_lt (g := gb673) (o := .cells #[.int .i64 a2_0, .bool a2_1] 30 (0, 0)) (by (with_reducible repeat (first | refine blk_drewN ?_ _ | refine blk_drew ?_ | refine blk_alloc ?_ _)); exact BK673.out)) : gb673 ≠ gb697)); have n13_ := Aside0.mk ((by rw [hg]; exact Nat.ne_of_gt (blk_lt (g := gb673) (o := .cells #[.int .i64 a2_0, .bool a2_1] 30 (0, 0)) (by (with_reducible repeat (first | refine blk_drewN ?_ _ | refine blk_drew ?_ | refine blk_alloc ?_ _)); exact BK673.out)) : gb697 ≠ gb673)); have n14_ := Aside0.mk ((by rw [hg]; exact Nat.ne_of_lt (blk_lt (g := gb686) (o := .cells #[.bool t676, .slice Ao20 t677.length co20, .slice Ao21 t680.length co21, .slice Ao22 t683.length co22] 27 (0, 0)) (by (with_reducible repeat (first | refine blk_drewN ?_ _ | refine blk_drew ?_ | refine blk_alloc ?_ _)); exact BK686.out)) : gb686 ≠ gb697)); have n15_ := Aside0.mk ((by rw [hg]; exact Nat.ne_of_gt (blk_lt (g := gb686) (o := .cells #[.bool t676, .slice Ao20 t677.length co20, .slice Ao21 t680.length co21, .slice Ao22 t683.length co22] 27 (0, 0)) (by (with_reducible repeat (first | refine blk_drewN ?_ _ | refine blk_drew ?_ | refine blk_alloc ?_ _)); exact BK686.out)) : gb697 ≠ gb686)); clear HO679; clear HO682; clear HO685; clear HO690; clear HO693; clear HO696; clear BK673; clear BK686; clear HB; have HO679 := n0_; have HO682 := n1_; have HO685 := n2_; have HO690 := n3_; have HO693 := n4_; have HO696 := n5_; have BK673 := n6_; have BK686 := n7_; have HB := n8_; have BK697 := n9_; have GW697 := n10_; have GE697 := n11_; have NB673_697 := n12_; have NB697_673 := n13_; have NB686_697 := n14_; have NB697_686 := n15_; clear n0_ n1_ n2_ n3_ n4_ n5_ n6_ n7_ n8_ n9_ n10_ n11_ n12_ n13_ n14_ n15_; clear hb hbox hg; have hnb27 := NB697_673.out; have hnc27 := NB673_697.out; have hnb28 := NB697_686.out; have hnc28 := NB686_697.out; have hcz29_0 : w26.cell? ⟨gb697, 0, none⟩ = some (.bool false) := (blk_cell BK697.out 0).trans rfl; have hcz29_1 : w26.cell? ⟨gb697, 1, none⟩ = some (.slice none 0 0) := (blk_cell BK697.out 1).trans rfl; have hcz29_2 : w26.cell? ⟨gb697, 2, none⟩ = some (.slice none 0 0) := (blk_cell BK697.out 2).trans rfl; have hcz29_3 : w26.cell? ⟨gb697, 3, none⟩ = some (.slice none 0 0) := (blk_cell BK697.out 3).trans rfl; have hfz29_0 := blk_frozen BK697.out 0; have hfz29_1 := blk_frozen BK697.out 1; have hfz29_2 := blk_frozen BK697.out 2; have hfz29_3 := blk_frozen BK697.out 3; obtain ⟨Ao30, co30, eo30⟩ := Kd.V_slice HO690.out; subst eo30; obtain ⟨Ao31, co31, eo31⟩ := Kd.V_slice HO693.out; subst eo31; obtain ⟨Ao32, co32, eo32⟩ := Kd.V_slice HO696.out; subst eo32))
        have n0_ : Aside0 (Kd.V Kd.string 9 ((((w26.setCell ⟨gb697, 0, none⟩ (.bool t687)).setCell ⟨gb697, 1, none⟩ (.slice Ao30 t688.length co30)).setCell ⟨gb697, 2, none⟩ (.slice Ao31 t691.length co31)).setCell ⟨gb697, 3, none⟩ (.slice Ao32 t694.length co32)) w.heap.size (fun k_ => k_ ≠ gb673 ∧ k_ ≠ gb686 ∧ k_ ≠ gb697) (.slice Ao20 t677.length co20) t677) := ⟨by (with_reducible repeat (first | apply Kd.V_alloc | apply Kd.V_drewN | apply Kd.V_drew)); exact Kd.V_mono (Kd.V_far (p := ⟨gb697, 3, none⟩) (Kd.V_far (p := ⟨gb697, 2, none⟩) (Kd.V_far (p := ⟨gb697, 1, none⟩) (Kd.V_far (p := ⟨gb697, 0, none⟩) (Kd.V_mono HO679.out (fun k_ hk => (⟨hk, hk.2⟩ : _ ∧ k_ ≠ gb697))) (fun _ hk => hk.2) (.bool t687)) (fun _ hk => hk.2) (.slice Ao30 t688.length co30)) (fun _ hk => hk.2) (.slice Ao31 t691.length co31)) (fun _ hk => hk.2) (.slice Ao32 t694.length co32)) (fun _ hk => ⟨hk.1.1.1, ⟨hk.1.1.2, hk.1.2⟩⟩)⟩
        have n1_ : Aside0 (Kd.V Kd.string 9 ((((w26.setCell ⟨gb697, 0, none⟩ (.bool t687)).setCell ⟨gb697, 1, none⟩ (.slice Ao30 t688.length co30)).setCell ⟨gb697, 2, none⟩ (.slice Ao31 t691.length co31)).setCell ⟨gb697, 3, none⟩ (.slice Ao32 t694.length co32)) w.heap.size (fun k_ => k_ ≠ gb673 ∧ k_ ≠ gb686 ∧ k_ ≠ gb697) (.slice Ao21 t680.length co21) t680) := ⟨by (with_reducible repeat (first | apply Kd.V_alloc | apply Kd.V_drewN | apply Kd.V_drew)); exact Kd.V_mono (Kd.V_far (p := ⟨gb697, 3, none⟩) (Kd.V_far (p := ⟨gb697, 2, none⟩) (Kd.V_far (p := ⟨gb697, 1, none⟩) (Kd.V_far (p := ⟨gb697, 0, none⟩) (Kd.V_mono HO682.out (fun k_ hk => (⟨hk, hk.2⟩ : _ ∧ k_ ≠ gb697))) (fun _ hk => hk.2) (.bool t687)) (fun _ hk => hk.2) (.slice Ao30 t688.length co30)) (fun _ hk => hk.2) (.slice Ao31 t691.length co31)) (fun _ hk => hk.2) (.slice Ao32 t694.length co32)) (fun _ hk => ⟨hk.1.1.1, ⟨hk.1.1.2, hk.1.2⟩⟩)⟩
        have n2_ : Aside0 (Kd.V (Kd.slice 9 Kd.string) 22 ((((w26.setCell ⟨gb697, 0, none⟩ (.bool t687)).setCell ⟨gb697, 1, none⟩ (.slice Ao30 t688.length co30)).setCell ⟨gb697, 2, none⟩ (.slice Ao31 t691.length co31)).setCell ⟨gb697, 3, none⟩ (.slice Ao32 t694.length co32)) w.heap.size (fun k_ => k_ ≠ gb673 ∧ k_ ≠ gb686 ∧ k_ ≠ gb697) (.slice Ao22 t683.length co22) t683) := ⟨by (with_reducible repeat (first | apply Kd.V_alloc | apply Kd.V_drewN | apply Kd.V_drew)); exact Kd.V_mono (Kd.V_far (p := ⟨gb697, 3, none⟩) (Kd.V_far (p := ⟨gb697, 2, none⟩) (Kd.V_far (p := ⟨gb697, 1, none⟩) (Kd.V_far (p := ⟨gb697, 0, none⟩) (Kd.V_mono HO685.out (fun k_ hk => (⟨hk, hk.2⟩ : _ ∧ k_ ≠ gb697))) (fun _ hk => hk.2) (.bool t687)) (fun _ hk => hk.2) (.slice Ao30 t688.length co30)) (fun _ hk => hk.2) (.slice Ao31 t691.length co31)) (fun _ hk => hk.2) (.slice Ao32 t694.length co32)) (fun _ hk => ⟨hk.1.1.1, ⟨hk.1.1.2, hk.1.2⟩⟩)⟩
        have n3_ : Aside0 (Kd.V Kd.string 9 ((((w26.setCell ⟨gb697, 0, none⟩ (.bool t687)).setCell ⟨gb697, 1, none⟩ (.slice Ao30 t688.length co30)).setCell ⟨gb697, 2, none⟩ (.slice Ao31 t691.length co31)).setCell ⟨gb697, 3, none⟩ (.slice Ao32 t694.length co32)) w.heap.size (fun k_ => k_ ≠ gb673 ∧ k_ ≠ gb686 ∧ k_ ≠ gb697) (.slice Ao30 t688.length co30) t688) := ⟨by (with_reducible repeat (first | apply Kd.V_alloc | apply Kd.V_drewN | apply Kd.V_drew)); exact Kd.V_mono (Kd.V_far (p := ⟨gb697, 3, none⟩) (Kd.V_far (p := ⟨gb697, 2, none⟩) (Kd.V_far (p := ⟨gb697, 1, none⟩) (Kd.V_far (p := ⟨gb697, 0, none⟩) (Kd.V_mono HO690.out (fun k_ hk => (⟨hk, hk.2⟩ : _ ∧ k_ ≠ gb697))) (fun _ hk => hk.2) (.bool t687)) (fun _ hk => hk.2) (.slice Ao30 t688.length co30)) (fun _ hk => hk.2) (.slice Ao31 t691.length co31)) (fun _ hk => hk.2) (.slice Ao32 t694.length co32)) (fun _ hk => ⟨hk.1.1.1, ⟨hk.1.1.2, hk.1.2⟩⟩)⟩
        have n4_ : Aside0 (Kd.V Kd.string 9 ((((w26.setCell ⟨gb697, 0, none⟩ (.bool t687)).setCell ⟨gb697, 1, none⟩ (.slice Ao30 t688.length co30)).setCell ⟨gb697, 2, none⟩ (.slice Ao31 t691.length co31)).setCell ⟨gb697, 3, none⟩ (.slice Ao32 t694.length co32)) w.heap.size (fun k_ => k_ ≠ gb673 ∧ k_ ≠ gb686 ∧ k_ ≠ gb697) (.slice Ao31 t691.length co31) t691) := ⟨by (with_reducible repeat (first | apply Kd.V_alloc | apply Kd.V_drewN | apply Kd.V_drew)); exact Kd.V_mono (Kd.V_far (p := ⟨gb697, 3, none⟩) (Kd.V_far (p := ⟨gb697, 2, none⟩) (Kd.V_far (p := ⟨gb697, 1, none⟩) (Kd.V_far (p := ⟨gb697, 0, none⟩) (Kd.V_mono HO693.out (fun k_ hk => (⟨hk, hk.2⟩ : _ ∧ k_ ≠ gb697))) (fun _ hk => hk.2) (.bool t687)) (fun _ hk => hk.2) (.slice Ao30 t688.length co30)) (fun _ hk => hk.2) (.slice Ao31 t691.length co31)) (fun _ hk => hk.2) (.slice Ao32 t694.length co32)) (fun _ hk => ⟨hk.1.1.1, ⟨hk.1.1.2, hk.1.2⟩⟩)⟩
        have n5_ : Aside0 (Kd.V (Kd.slice 9 Kd.string) 22 ((((w26.setCell ⟨gb697, 0, none⟩ (.bool t687)).setCell ⟨gb697, 1, none⟩ (.slice Ao30 t688.length co30)).setCell ⟨gb697, 2, none⟩ (.slice Ao31 t691.length co31)).setCell ⟨gb697, 3, none⟩ (.slice Ao32 t694.length co32)) w.heap.size (fun k_ => k_ ≠ gb673 ∧ k_ ≠ gb686 ∧ k_ ≠ gb697) (.slice Ao32 t694.length co32) t694) := ⟨by (with_reducible repeat (first | apply Kd.V_alloc | apply Kd.V_drewN | apply Kd.V_drew)); exact Kd.V_mono (Kd.V_far (p := ⟨gb697, 3, none⟩) (Kd.V_far (p := ⟨gb697, 2, none⟩) (Kd.V_far (p := ⟨gb697, 1, none⟩) (Kd.V_far (p := ⟨gb697, 0, none⟩) (Kd.V_mono HO696.out (fun k_ hk => (⟨hk, hk.2⟩ : _ ∧ k_ ≠ gb697))) (fun _ hk => hk.2) (.bool t687)) (fun _ hk => hk.2) (.slice Ao30 t688.length co30)) (fun _ hk => hk.2) (.slice Ao31 t691.length co31)) (fun _ hk => hk.2) (.slice Ao32 t694.length co32)) (fun _ hk => ⟨hk.1.1.1, ⟨hk.1.1.2, hk.1.2⟩⟩)⟩
        have n6_ : Aside0 (((((w26.setCell ⟨gb697, 0, none⟩ (.bool t687)).setCell ⟨gb697, 1, none⟩ (.slice Ao30 t688.length co30)).setCell ⟨gb697, 2, none⟩ (.slice Ao31 t691.length co31)).setCell ⟨gb697, 3, none⟩ (.slice Ao32 t694.length co32)).heap[gb673]? = some (.cells #[.int .i64 a2_0, .bool a2_1] 30 (0, 0))) := ⟨by (with_reducible repeat (first | refine blk_drewN ?_ _ | refine blk_drew ?_ | refine blk_alloc ?_ _)); refine blk_far ?_ NB673_697.out _; (with_reducible repeat (first | refine blk_drewN ?_ _ | refine blk_drew ?_ | refine blk_alloc ?_ _)); refine blk_far ?_ NB673_697.out _; (with_reducible repeat (first | refine blk_drewN ?_ _ | refine blk_drew ?_ | refine blk_alloc ?_ _)); refine blk_far ?_ NB673_697.out _; (with_reducible repeat (first | refine blk_drewN ?_ _ | refine blk_drew ?_ | refine blk_alloc ?_ _)); refine blk_far ?_ NB673_697.out _; (with_reducible repeat (first | refine blk_drewN ?_ _ | refine blk_drew ?_ | refine blk_alloc ?_ _)); exact BK673.out⟩
        have n7_ : Aside0 (((((w26.setCell ⟨gb697, 0, none⟩ (.bool t687)).setCell ⟨gb697, 1, none⟩ (.slice Ao30 t688.length co30)).setCell ⟨gb697, 2, none⟩ (.slice Ao31 t691.length co31)).setCell ⟨gb697, 3, none⟩ (.slice Ao32 t694.length co32)).heap[gb686]? = some (.cells #[.bool t676, .slice Ao20 t677.length co20, .slice Ao21 t680.length co21, .slice Ao22 t683.length co22] 27 (0, 0))) := ⟨by (with_reducible repeat (first | refine blk_drewN ?_ _ | refine blk_drew ?_ | refine blk_alloc ?_ _)); refine blk_far ?_ NB686_697.out _; (with_reducible repeat (first | refine blk_drewN ?_ _ | refine blk_drew ?_ | refine blk_alloc ?_ _)); refine blk_far ?_ NB686_697.out _; (with_reducible repeat (first | refine blk_drewN ?_ _ | refine blk_drew ?_ | refine blk_alloc ?_ _)); refine blk_far ?_ NB686_697.out _; (with_reducible repeat (first | refine blk_drewN ?_ _ | refine blk_drew ?_ | refine blk_alloc ?_ _)); refine blk_far ?_ NB686_697.out _; (with_reducible repeat (first | refine blk_drewN ?_ _ | refine blk_drew ?_ | refine blk_alloc ?_ _)); exact BK686.out⟩
        have n8_ : Aside0 (((((w26.setCell ⟨gb697, 0, none⟩ (.bool t687)).setCell ⟨gb697, 1, none⟩ (.slice Ao30 t688.length co30)).setCell ⟨gb697, 2, none⟩ (.slice Ao31 t691.length co31)).setCell ⟨gb697, 3, none⟩ (.slice Ao32 t694.length co32)).heap[gb697]? = some (.cells #[.bool t687, .slice Ao30 t688.length co30, .slice Ao31 t691.length co31, .slice Ao32 t694.length co32] 27 (0, 0))) := ⟨by (with_reducible repeat (first | refine blk_drewN ?_ _ | refine blk_drew ?_ | refine blk_alloc ?_ _)); refine blk_put (cs := #[.bool t687, .slice Ao30 t688.length co30, .slice Ao31 t691.length co31, .slice none 0 0]) ?_ 3 _ rfl; (with_reducible repeat (first | refine blk_drewN ?_ _ | refine blk_drew ?_ | refine blk_alloc ?_ _)); refine blk_put (cs := #[.bool t687, .slice Ao30 t688.length co30, .slice none 0 0, .slice none 0 0]) ?_ 2 _ rfl; (with_reducible repeat (first | refine blk_drewN ?_ _ | refine blk_drew ?_ | refine blk_alloc ?_ _)); refine blk_put (cs := #[.bool t687, .slice none 0 0, .slice none 0 0, .slice none 0 0]) ?_ 1 _ rfl; (with_reducible repeat (first | refine blk_drewN ?_ _ | refine blk_drew ?_ | refine blk_alloc ?_ _)); refine blk_put (cs := #[.bool false, .slice none 0 0, .slice none 0 0, .slice none 0 0]) ?_ 0 _ rfl; (with_reducible repeat (first | refine blk_drewN ?_ _ | refine blk_drew ?_ | refine blk_alloc ?_ _)); exact BK697.out⟩
        have n9_ : Aside0 (Below w.heap.size w ((((w26.setCell ⟨gb697, 0, none⟩ (.bool t687)).setCell ⟨gb697, 1, none⟩ (.slice Ao30 t688.length co30)).setCell ⟨gb697, 2, none⟩ (.slice Ao31 t691.length co31)).setCell ⟨gb697, 3, none⟩ (.slice Ao32 t694.length co32))) := ⟨by repeat (first | (with_reducible first | exact HB.out | apply below_alloc | apply pw_below_drewN | apply below_drew1 | refine below_set ?_ GE673.out | refine below_set ?_ GE686.out | refine below_set ?_ GE697.out) | exact HB.out)⟩
        (try clear HO679)
        (try clear HO682)
        (try clear HO685)
        (try clear HO690)
        (try clear HO693)
        (try clear HO696)
        (try clear BK673)
        (try clear BK686)
        (try clear BK697)
        (try clear HB)
        generalize ((((w26.setCell ⟨gb697, 0, none⟩ (.bool t687)).setCell ⟨gb697, 1, none⟩ (.slice Ao30 t688.length co30)).setCell ⟨gb697, 2, none⟩ (.slice Ao31 t691.length co31)).setCell ⟨gb697, 3, none⟩ (.slice Ao32 t694.length co32)) = w33 at n0_ n1_ n2_ n3_ n4_ n5_ n6_ n7_ n8_ n9_ ⊢
        have HO679 := n0_
        have HO682 := n1_
        have HO685 := n2_
        have HO690 := n3_
        have HO693 := n4_
        have HO696 := n5_
        have BK673 := n6_
        have BK686 := n7_
        have BK697 := n8_
        have HB := n9_
        clear n0_ n1_ n2_ n3_ n4_ n5_ n6_ n7_ n8_ n9_
        have n0_ := Aside0.mk (Kd.V_drew HO679.out)
        have n1_ := Aside0.mk (Kd.V_drew HO682.out)
        have n2_ := Aside0.mk (Kd.V_drew HO685.out)
        have n3_ := Aside0.mk (Kd.V_drew HO690.out)
        have n4_ := Aside0.mk (Kd.V_drew HO693.out)
        have n5_ := Aside0.mk (Kd.V_drew HO696.out)
        have n6_ := Aside0.mk (blk_drew BK673.out)
        have n7_ := Aside0.mk (blk_drew BK686.out)
        have n8_ := Aside0.mk (blk_drew BK697.out)
        have n9_ := Aside0.mk (below_drew1 HB.out)
        clear HO679
        clear HO682
        clear HO685
        clear HO690
        clear HO693
        clear HO696
        clear BK673
        clear BK686
        clear BK697
        clear HB
        have HO679 := n0_
        have HO682 := n1_
        have HO685 := n2_
        have HO690 := n3_
        have HO693 := n4_
        have HO696 := n5_
        have BK673 := n6_
        have BK686 := n7_
        have BK697 := n8_
        have HB := n9_
        clear n0_ n1_ n2_ n3_ n4_ n5_ n6_ n7_ n8_ n9_
        refine start_ (n := 18) (S := fun w' => w'.cell? ⟨gb686, 0, none⟩ = some (.bool t676) ∧ w'.cell? ⟨gb686, 1, none⟩ = some (.slice Ao20 t677.length co20) ∧ w'.cell? ⟨gb686, 2, none⟩ = some (.slice Ao21 t680.length co21) ∧ w'.cell? ⟨gb686, 3, none⟩ = some (.slice Ao22 t683.length co22) ∧ w'.cell? ⟨gb697, 0, none⟩ = some (.bool t687) ∧ w'.cell? ⟨gb697, 1, none⟩ = some (.slice Ao30 t688.length co30) ∧ w'.cell? ⟨gb697, 2, none⟩ = some (.slice Ao31 t691.length co31) ∧ w'.cell? ⟨gb697, 3, none⟩ = some (.slice Ao32 t694.length co32)) (ds := []) #[false, false, false, false, false, false, false, false, false, false, false, false, false, false, false, false, false, false] (by kernel_rfl) rfl rfl ⟨(blk_cell BK686.out 0).trans rfl, (blk_cell BK686.out 1).trans rfl, (blk_cell BK686.out 2).trans rfl, (blk_cell BK686.out 3).trans rfl, (blk_cell BK697.out 0).trans rfl, (blk_cell BK697.out 1).trans rfl, (blk_cell BK697.out 2).trans rfl, (blk_cell BK697.out 3).trans rfl⟩ (fun hHeld => ?_); refine with_tabW sennitlaw07_PickTells.tab6 sennitlaw07_PickTells.bits6 (fun HT_ HW_ => ?_)
        generalize w33.drew = w34 at HO679 HO682 HO685 HO690 HO693 HO696 BK673 BK686 BK697 HB hHeld ⊢
        refine pure_ (i := 0) (N := some 24) (v := ?_) (a' := ?_) #[true, false, false, false, false, false, false, false, false, false, false, false, false, false, false, false, false, false] rfl rfl (any_of HT_.out (by kernel_rfl)) (fun _ _ _ h => h) (Or.inl ⟨by rfl, ?_⟩) ?_ ?_
        rotate_left
        · intro w'
          go_simp
          with_reducible rfl
        rotate_left
        · simp only [Act.put, List.setIfInBounds_toArray, List.set_cons_zero, List.set_cons_succ, i64_w, i32_w]
          rfl
        refine pure_ (i := 1) (N := some 25) (v := ?_) (a' := ?_) #[true, true, false, false, false, false, false, false, false, false, false, false, false, false, false, false, false, false] rfl rfl (any_of HT_.out (by kernel_rfl)) (fun _ _ _ h => h) (Or.inl ⟨by rfl, ?_⟩) ?_ ?_
        rotate_left
        · intro w'
          go_simp
          with_reducible rfl
        rotate_left
        · simp only [Act.put, List.setIfInBounds_toArray, List.set_cons_zero, List.set_cons_succ, i64_w, i32_w]
          rfl
        refine take_ (i := 2) (N := some 26) (v := ?_) (a' := ?_) #[true, true, true, false, false, false, false, false, false, false, false, false, false, false, false, false, false, false] rfl rfl (take_ofW HT_.out HW_.out (by kernel_rfl)) (fun _ _ _ h => h) (Or.inl ⟨by rfl, ?_⟩) hHeld ?_ ?_
        rotate_left
        · rintro w' ⟨s0, s1, s2, s3, s4, s5, s6, s7⟩
          go_simp
          with_reducible rfl
        rotate_left
        · simp only [Act.put, List.setIfInBounds_toArray, List.set_cons_zero, List.set_cons_succ, i64_w, i32_w]
          rfl
        refine take_ (i := 4) (N := some 28) (v := ?_) (a' := ?_) #[true, true, true, false, true, false, false, false, false, false, false, false, false, false, false, false, false, false] rfl rfl (take_ofW HT_.out HW_.out (by kernel_rfl)) (fun _ _ _ h => h) (Or.inl ⟨by rfl, ?_⟩) hHeld ?_ ?_
        rotate_left
        · rintro w' ⟨s0, s1, s2, s3, s4, s5, s6, s7⟩
          go_simp
          with_reducible rfl
        rotate_left
        · simp only [Act.put, List.setIfInBounds_toArray, List.set_cons_zero, List.set_cons_succ, i64_w, i32_w]
          rfl
        refine join_ (σ := Value × Value) 12 #[true, true, true, true, true, true, false, false, false, false, false, false, false, false, false, false, false, false] (fun s_ => [(27, s_.1), (29, s_.2)]) (fun s_ w' => (w'.cell? ⟨gb686, 0, none⟩ = some (.bool t676) ∧ w'.cell? ⟨gb686, 1, none⟩ = some (.slice Ao20 t677.length co20) ∧ w'.cell? ⟨gb686, 2, none⟩ = some (.slice Ao21 t680.length co21) ∧ w'.cell? ⟨gb686, 3, none⟩ = some (.slice Ao22 t683.length co22) ∧ w'.cell? ⟨gb697, 0, none⟩ = some (.bool t687) ∧ w'.cell? ⟨gb697, 1, none⟩ = some (.slice Ao30 t688.length co30) ∧ w'.cell? ⟨gb697, 2, none⟩ = some (.slice Ao31 t691.length co31) ∧ w'.cell? ⟨gb697, 3, none⟩ = some (.slice Ao32 t694.length co32)) ∧ (Kd.V Kd.string 9 w' w.heap.size (fun k_ => some k_ ≠ (s_.1 : Value).ownBlock ∧ some k_ ≠ (s_.2 : Value).ownBlock ∧ k_ ≠ gb673 ∧ k_ ≠ gb686 ∧ k_ ≠ gb697) (.slice Ao20 t677.length co20) t677) ∧ (Kd.V Kd.string 9 w' w.heap.size (fun k_ => some k_ ≠ (s_.1 : Value).ownBlock ∧ some k_ ≠ (s_.2 : Value).ownBlock ∧ k_ ≠ gb673 ∧ k_ ≠ gb686 ∧ k_ ≠ gb697) (.slice Ao21 t680.length co21) t680) ∧ (Kd.V (Kd.slice 9 Kd.string) 22 w' w.heap.size (fun k_ => some k_ ≠ (s_.1 : Value).ownBlock ∧ some k_ ≠ (s_.2 : Value).ownBlock ∧ k_ ≠ gb673 ∧ k_ ≠ gb686 ∧ k_ ≠ gb697) (.slice Ao22 t683.length co22) t683) ∧ (Kd.V Kd.string 9 w' w.heap.size (fun k_ => some k_ ≠ (s_.1 : Value).ownBlock ∧ some k_ ≠ (s_.2 : Value).ownBlock ∧ k_ ≠ gb673 ∧ k_ ≠ gb686 ∧ k_ ≠ gb697) (.slice Ao30 t688.length co30) t688) ∧ (Kd.V Kd.string 9 w' w.heap.size (fun k_ => some k_ ≠ (s_.1 : Value).ownBlock ∧ some k_ ≠ (s_.2 : Value).ownBlock ∧ k_ ≠ gb673 ∧ k_ ≠ gb686 ∧ k_ ≠ gb697) (.slice Ao31 t691.length co31) t691) ∧ (Kd.V (Kd.slice 9 Kd.string) 22 w' w.heap.size (fun k_ => some k_ ≠ (s_.1 : Value).ownBlock ∧ some k_ ≠ (s_.2 : Value).ownBlock ∧ k_ ≠ gb673 ∧ k_ ≠ gb686 ∧ k_ ≠ gb697) (.slice Ao32 t694.length co32) t694) ∧ (Kd.N k27 27 w' w.heap.size (fun k_ => some k_ ≠ (s_.2 : Value).ownBlock ∧ k_ ≠ gb673 ∧ k_ ≠ gb686 ∧ k_ ≠ gb697) s_.1 y698) ∧ (Kd.N k27 27 w' w.heap.size (fun k_ => some k_ ≠ (s_.1 : Value).ownBlock ∧ k_ ≠ gb673 ∧ k_ ≠ gb686 ∧ k_ ≠ gb697) s_.2 y701) ∧ (w'.heap[gb673]? = some (.cells #[.int .i64 a2_0, .bool a2_1] 30 (0, 0))) ∧ (w'.heap[gb686]? = some (.cells #[.bool t676, .slice Ao20 t677.length co20, .slice Ao21 t680.length co21, .slice Ao22 t683.length co22] 27 (0, 0))) ∧ (w'.heap[gb697]? = some (.cells #[.bool t687, .slice Ao30 t688.length co30, .slice Ao31 t691.length co31, .slice Ao32 t694.length co32] 27 (0, 0))) ∧ (Below w.heap.size w w')) ?_ ?_
        rotate_left
        · intro hCont
          refine two_ (i := 3) (j := 5) (Ni := some 27) (Nj := some 29) #[true, true, true, true, true, false, false, false, false, false, false, false, false, false, false, false, false, false] #[true, true, true, false, true, true, false, false, false, false, false, false, false, false, false, false, false, false] rfl rfl rfl rfl (two_of HT_.out (by kernel_rfl)) (by decide) (by decide) (fun K hK => ?_) (fun K hK => ?_)
          · skip
            refine Kd.N_lit_step k27 _ 27 ?hg (N' := 27) ?hd (xs := ([(⟨t676, t677, t680, t683⟩ : S27)] : List (S27))) (inner := [.bool t676, .slice Ao20 t677.length co20, .slice Ao21 t680.length co21, .slice Ao22 t683.length co22]) (ok := (fun k_ => k_ ≠ gb673 ∧ k_ ≠ gb686 ∧ k_ ≠ gb697)) (okp := (fun k_ => k_ ≠ gb673 ∧ k_ ≠ gb686 ∧ k_ ≠ gb697)) ?hr ?hp (fun _ hk => hk) ((show ∀ k_, w34.heap.size ≤ k_ → (fun k_ => k_ ≠ gb673 ∧ k_ ≠ gb686 ∧ k_ ≠ gb697) k_ from fun k_ hk => ⟨Kd.freshB (g := gb673) (o := .cells #[.int .i64 a2_0, .bool a2_1] 30 (0, 0)) (by (with_reducible repeat (first | refine blk_drewN ?_ _ | refine blk_drew ?_ | refine blk_alloc ?_ _)); exact BK673.out) k_ hk, Kd.freshB (g := gb686) (o := .cells #[.bool t676, .slice Ao20 t677.length co20, .slice Ao21 t680.length co21, .slice Ao22 t683.length co22] 27 (0, 0)) (by (with_reducible repeat (first | refine blk_drewN ?_ _ | refine blk_drew ?_ | refine blk_alloc ?_ _)); exact BK686.out) k_ hk, Kd.freshB (g := gb697) (o := .cells #[.bool t687, .slice Ao30 t688.length co30, .slice Ao31 t691.length co31, .slice Ao32 t694.length co32] 27 (0, 0)) (by (with_reducible repeat (first | refine blk_drewN ?_ _ | refine blk_drew ?_ | refine blk_alloc ?_ _)); exact BK697.out) k_ hk⟩) _ (Nat.le_refl _)) (Below.refl _ _) (Nat.le_refl _) (by simp) ?_; (case hd => rfl); (case hg => rfl); (case hr => first | (go_simp; done) | (go_simp; rfl)); (case hp => exact (Reps.c4 (show Kd.FK k27 _ _ (⟨t676, t677, t680, t683⟩ : S27) [.bool t676, .slice Ao20 t677.length co20, .slice Ao21 t680.length co21, .slice Ao22 t683.length co22] from (k27_mkF _ _ (⟨t676, t677, t680, t683⟩ : S27) (Kd.V_reads' (Kd.V_mono (ok' := (fun k_ => k_ ≠ gb673 ∧ k_ ≠ gb686 ∧ k_ ≠ gb697)) (HO679.out) (fun k_ hk => ⟨hk.1, ⟨hk.2.1, hk.2.2⟩⟩))).2.1 (Kd.V_F (Kd.V_mono (ok' := (fun k_ => k_ ≠ gb673 ∧ k_ ≠ gb686 ∧ k_ ≠ gb697)) (HO679.out) (fun k_ hk => ⟨hk.1, ⟨hk.2.1, hk.2.2⟩⟩))) (Kd.V_reads' (Kd.V_mono (ok' := (fun k_ => k_ ≠ gb673 ∧ k_ ≠ gb686 ∧ k_ ≠ gb697)) (HO682.out) (fun k_ hk => ⟨hk.1, ⟨hk.2.1, hk.2.2⟩⟩))).2.1 (Kd.V_F (Kd.V_mono (ok' := (fun k_ => k_ ≠ gb673 ∧ k_ ≠ gb686 ∧ k_ ≠ gb697)) (HO682.out) (fun k_ hk => ⟨hk.1, ⟨hk.2.1, hk.2.2⟩⟩))) (Kd.V_reads' (Kd.V_mono (ok' := (fun k_ => k_ ≠ gb673 ∧ k_ ≠ gb686 ∧ k_ ≠ gb697)) (HO685.out) (fun k_ hk => ⟨hk.1, ⟨hk.2.1, hk.2.2⟩⟩))).2.1 (Kd.V_F (Kd.V_mono (ok' := (fun k_ => k_ ≠ gb673 ∧ k_ ≠ gb686 ∧ k_ ≠ gb697)) (HO685.out) (fun k_ hk => ⟨hk.1, ⟨hk.2.1, hk.2.2⟩⟩))))) (Reps.none _ _)))
            intro v699 w35 ho36 hb hg_ hnew_
            clear hg_ hnew_
            (first | rw [← Ny698.out] at ho36 | (simp only [Int.reduceToNat] at ho36; rw [← Ny698.out] at ho36))
            have n0_ := Aside0.mk (Kd.V_elder' (by (with_reducible repeat (first | apply Kd.V_alloc | apply Kd.V_drewN | apply Kd.V_drew)); exact HO679.out) (Kd.N_base ho36) hb)
            have n1_ := Aside0.mk (Kd.V_elder' (by (with_reducible repeat (first | apply Kd.V_alloc | apply Kd.V_drewN | apply Kd.V_drew)); exact HO682.out) (Kd.N_base ho36) hb)
            have n2_ := Aside0.mk (Kd.V_elder' (by (with_reducible repeat (first | apply Kd.V_alloc | apply Kd.V_drewN | apply Kd.V_drew)); exact HO685.out) (Kd.N_base ho36) hb)
            have n3_ := Aside0.mk (Kd.V_elder' (by (with_reducible repeat (first | apply Kd.V_alloc | apply Kd.V_drewN | apply Kd.V_drew)); exact HO690.out) (Kd.N_base ho36) hb)
            have n4_ := Aside0.mk (Kd.V_elder' (by (with_reducible repeat (first | apply Kd.V_alloc | apply Kd.V_drewN | apply Kd.V_drew)); exact HO693.out) (Kd.N_base ho36) hb)
            have n5_ := Aside0.mk (Kd.V_elder' (by (with_reducible repeat (first | apply Kd.V_alloc | apply Kd.V_drewN | apply Kd.V_drew)); exact HO696.out) (Kd.N_base ho36) hb)
            have n6_ := Aside0.mk (Kd.N_lower ho36 (below_size (by repeat (first | (with_reducible first | exact HB.out | apply below_alloc | apply pw_below_drewN | apply below_drew1 | refine below_set ?_ GE673.out | refine below_set ?_ GE686.out | refine below_set ?_ GE697.out) | exact HB.out))))
            have n7_ := Aside0.mk (blk_below (g := gb673) (o := .cells #[.int .i64 a2_0, .bool a2_1] 30 (0, 0)) (by (with_reducible repeat (first | refine blk_drewN ?_ _ | refine blk_drew ?_ | refine blk_alloc ?_ _)); exact BK673.out) hb)
            have n8_ := Aside0.mk (blk_below (g := gb686) (o := .cells #[.bool t676, .slice Ao20 t677.length co20, .slice Ao21 t680.length co21, .slice Ao22 t683.length co22] 27 (0, 0)) (by (with_reducible repeat (first | refine blk_drewN ?_ _ | refine blk_drew ?_ | refine blk_alloc ?_ _)); exact BK686.out) hb)
            have n9_ := Aside0.mk (blk_below (g := gb697) (o := .cells #[.bool t687, .slice Ao30 t688.length co30, .slice Ao31 t691.length co31, .slice Ao32 t694.length co32] 27 (0, 0)) (by (with_reducible repeat (first | refine blk_drewN ?_ _ | refine blk_drew ?_ | refine blk_alloc ?_ _)); exact BK697.out) hb)
            have n10_ := Aside0.mk (below_step (by repeat (first | (with_reducible first | exact HB.out | apply below_alloc | apply pw_below_drewN | apply below_drew1 | refine below_set ?_ GE673.out | refine below_set ?_ GE686.out | refine below_set ?_ GE697.out) | exact HB.out)) hb)
            clear HO679
            clear HO682
            clear HO685
            clear HO690
            clear HO693
            clear HO696
            clear BK673
            clear BK686
            clear BK697
            clear HB
            have HO679 := n0_
            have HO682 := n1_
            have HO685 := n2_
            have HO690 := n3_
            have HO693 := n4_
            have HO696 := n5_
            have HO700 := n6_
            have BK673 := n7_
            have BK686 := n8_
            have BK697 := n9_
            have HB := n10_
            clear n0_ n1_ n2_ n3_ n4_ n5_ n6_ n7_ n8_ n9_ n10_
            clear hb ho36
            refine hK.out _ _ ⟨(blk_cell BK686.out 0).trans rfl, (blk_cell BK686.out 1).trans rfl, (blk_cell BK686.out 2).trans rfl, (blk_cell BK686.out 3).trans rfl, (blk_cell BK697.out 0).trans rfl, (blk_cell BK697.out 1).trans rfl, (blk_cell BK697.out 2).trans rfl, (blk_cell BK697.out 3).trans rfl⟩ (fun hHeld => ?_)
            clear hK K
            refine norm_ (a' := ?_) ?_ ?_
            rotate_left
            · show Act.put _ (some 27) _ = _
              simp only [Act.put, List.setIfInBounds_toArray, List.set_cons_zero, List.set_cons_succ, i64_w, i32_w]
              rfl
            refine one_ (i := 5) (N := some 29) #[true, true, true, true, true, true, false, false, false, false, false, false, false, false, false, false, false, false] rfl rfl (one_of HT_.out (by kernel_rfl)) (by decide) (fun K hK => ?_)
            refine Kd.N_lit_step k27 _ 27 ?hg (N' := 29) ?hd (xs := ([(⟨t687, t688, t691, t694⟩ : S27)] : List (S27))) (inner := [.bool t687, .slice Ao30 t688.length co30, .slice Ao31 t691.length co31, .slice Ao32 t694.length co32]) (ok := (fun k_ => some k_ ≠ (v699 : Value).ownBlock ∧ k_ ≠ gb673 ∧ k_ ≠ gb686 ∧ k_ ≠ gb697)) (okp := (fun k_ => some k_ ≠ (v699 : Value).ownBlock ∧ k_ ≠ gb673 ∧ k_ ≠ gb686 ∧ k_ ≠ gb697)) ?hr ?hp (fun _ hk => hk) ((show ∀ k_, w35.heap.size ≤ k_ → (fun k_ => some k_ ≠ (v699 : Value).ownBlock ∧ k_ ≠ gb673 ∧ k_ ≠ gb686 ∧ k_ ≠ gb697) k_ from fun k_ hk => ⟨Kd.fresh' (Kd.N_lt (by (with_reducible repeat (first | apply Kd.N_alloc | apply Kd.N_drewN | apply Kd.N_drew)); exact HO700.out)) k_ hk, Kd.freshB (g := gb673) (o := .cells #[.int .i64 a2_0, .bool a2_1] 30 (0, 0)) (by (with_reducible repeat (first | refine blk_drewN ?_ _ | refine blk_drew ?_ | refine blk_alloc ?_ _)); exact BK673.out) k_ hk, Kd.freshB (g := gb686) (o := .cells #[.bool t676, .slice Ao20 t677.length co20, .slice Ao21 t680.length co21, .slice Ao22 t683.length co22] 27 (0, 0)) (by (with_reducible repeat (first | refine blk_drewN ?_ _ | refine blk_drew ?_ | refine blk_alloc ?_ _)); exact BK686.out) k_ hk, Kd.freshB (g := gb697) (o := .cells #[.bool t687, .slice Ao30 t688.length co30, .slice Ao31 t691.length co31, .slice Ao32 t694.length co32] 27 (0, 0)) (by (with_reducible repeat (first | refine blk_drewN ?_ _ | refine blk_drew ?_ | refine blk_alloc ?_ _)); exact BK697.out) k_ hk⟩) _ (Nat.le_refl _)) (Below.refl _ _) (Nat.le_refl _) (by simp) ?_; (case hd => rfl); (case hg => rfl); (case hr => first | (go_simp; done) | (go_simp; rfl)); (case hp => exact (Reps.c4 (show Kd.FK k27 _ _ (⟨t687, t688, t691, t694⟩ : S27) [.bool t687, .slice Ao30 t688.length co30, .slice Ao31 t691.length co31, .slice Ao32 t694.length co32] from (k27_mkF _ _ (⟨t687, t688, t691, t694⟩ : S27) (Kd.V_reads' (Kd.V_mono (ok' := (fun k_ => some k_ ≠ (v699 : Value).ownBlock ∧ k_ ≠ gb673 ∧ k_ ≠ gb686 ∧ k_ ≠ gb697)) (HO690.out) (fun k_ hk => ⟨hk.2, ⟨hk.1.1, ⟨hk.1.2.1, hk.1.2.2⟩⟩⟩))).2.1 (Kd.V_F (Kd.V_mono (ok' := (fun k_ => some k_ ≠ (v699 : Value).ownBlock ∧ k_ ≠ gb673 ∧ k_ ≠ gb686 ∧ k_ ≠ gb697)) (HO690.out) (fun k_ hk => ⟨hk.2, ⟨hk.1.1, ⟨hk.1.2.1, hk.1.2.2⟩⟩⟩))) (Kd.V_reads' (Kd.V_mono (ok' := (fun k_ => some k_ ≠ (v699 : Value).ownBlock ∧ k_ ≠ gb673 ∧ k_ ≠ gb686 ∧ k_ ≠ gb697)) (HO693.out) (fun k_ hk => ⟨hk.2, ⟨hk.1.1, ⟨hk.1.2.1, hk.1.2.2⟩⟩⟩))).2.1 (Kd.V_F (Kd.V_mono (ok' := (fun k_ => some k_ ≠ (v699 : Value).ownBlock ∧ k_ ≠ gb673 ∧ k_ ≠ gb686 ∧ k_ ≠ gb697)) (HO693.out) (fun k_ hk => ⟨hk.2, ⟨hk.1.1, ⟨hk.1.2.1, hk.1.2.2⟩⟩⟩))) (Kd.V_reads' (Kd.V_mono (ok' := (fun k_ => some k_ ≠ (v699 : Value).ownBlock ∧ k_ ≠ gb673 ∧ k_ ≠ gb686 ∧ k_ ≠ gb697)) (HO696.out) (fun k_ hk => ⟨hk.2, ⟨hk.1.1, ⟨hk.1.2.1, hk.1.2.2⟩⟩⟩))).2.1 (Kd.V_F (Kd.V_mono (ok' := (fun k_ => some k_ ≠ (v699 : Value).ownBlock ∧ k_ ≠ gb673 ∧ k_ ≠ gb686 ∧ k_ ≠ gb697)) (HO696.out) (fun k_ hk => ⟨hk.2, ⟨hk.1.1, ⟨hk.1.2.1, hk.1.2.2⟩⟩⟩))))) (Reps.none _ _)))
            intro v702 w37 ho38 hb hg_ hnew_
            clear hg_ hnew_
            (first | rw [← Ny701.out] at ho38 | (simp only [Int.reduceToNat] at ho38; rw [← Ny701.out] at ho38))
            have n0_ := Aside0.mk (Kd.V_elder' (by (with_reducible repeat (first | apply Kd.V_alloc | apply Kd.V_drewN | apply Kd.V_drew)); exact HO679.out) (Kd.N_base ho38) hb)
            have n1_ := Aside0.mk (Kd.V_elder' (by (with_reducible repeat (first | apply Kd.V_alloc | apply Kd.V_drewN | apply Kd.V_drew)); exact HO682.out) (Kd.N_base ho38) hb)
            have n2_ := Aside0.mk (Kd.V_elder' (by (with_reducible repeat (first | apply Kd.V_alloc | apply Kd.V_drewN | apply Kd.V_drew)); exact HO685.out) (Kd.N_base ho38) hb)
            have n3_ := Aside0.mk (Kd.V_elder' (by (with_reducible repeat (first | apply Kd.V_alloc | apply Kd.V_drewN | apply Kd.V_drew)); exact HO690.out) (Kd.N_base ho38) hb)
            have n4_ := Aside0.mk (Kd.V_elder' (by (with_reducible repeat (first | apply Kd.V_alloc | apply Kd.V_drewN | apply Kd.V_drew)); exact HO693.out) (Kd.N_base ho38) hb)
            have n5_ := Aside0.mk (Kd.V_elder' (by (with_reducible repeat (first | apply Kd.V_alloc | apply Kd.V_drewN | apply Kd.V_drew)); exact HO696.out) (Kd.N_base ho38) hb)
            have n6_ := Aside0.mk (Kd.N_elder' (by (with_reducible repeat (first | apply Kd.N_alloc | apply Kd.N_drewN | apply Kd.N_drew)); exact HO700.out) (Kd.N_base ho38) hb)
            have n7_ := Aside0.mk (Kd.N_lower ho38 (below_size (by repeat (first | (with_reducible first | exact HB.out | apply below_alloc | apply pw_below_drewN | apply below_drew1 | refine below_set ?_ GE673.out | refine below_set ?_ GE686.out | refine below_set ?_ GE697.out) | exact HB.out))))
            have n8_ := Aside0.mk (blk_below (g := gb673) (o := .cells #[.int .i64 a2_0, .bool a2_1] 30 (0, 0)) (by (with_reducible repeat (first | refine blk_drewN ?_ _ | refine blk_drew ?_ | refine blk_alloc ?_ _)); exact BK673.out) hb)
            have n9_ := Aside0.mk (blk_below (g := gb686) (o := .cells #[.bool t676, .slice Ao20 t677.length co20, .slice Ao21 t680.length co21, .slice Ao22 t683.length co22] 27 (0, 0)) (by (with_reducible repeat (first | refine blk_drewN ?_ _ | refine blk_drew ?_ | refine blk_alloc ?_ _)); exact BK686.out) hb)
            have n10_ := Aside0.mk (blk_below (g := gb697) (o := .cells #[.bool t687, .slice Ao30 t688.length co30, .slice Ao31 t691.length co31, .slice Ao32 t694.length co32] 27 (0, 0)) (by (with_reducible repeat (first | refine blk_drewN ?_ _ | refine blk_drew ?_ | refine blk_alloc ?_ _)); exact BK697.out) hb)
            have n11_ := Aside0.mk (below_step (by repeat (first | (with_reducible first | exact HB.out | apply below_alloc | apply pw_below_drewN | apply below_drew1 | refine below_set ?_ GE673.out | refine below_set ?_ GE686.out | refine below_set ?_ GE697.out) | exact HB.out)) hb)
            clear HO679
            clear HO682
            clear HO685
            clear HO690
            clear HO693
            clear HO696
            clear HO700
            clear BK673
            clear BK686
            clear BK697
            clear HB
            have HO679 := n0_
            have HO682 := n1_
            have HO685 := n2_
            have HO690 := n3_
            have HO693 := n4_
            have HO696 := n5_
            have HO700 := n6_
            have HO703 := n7_
            have BK673 := n8_
            have BK686 := n9_
            have BK697 := n10_
            have HB := n11_
            clear n0_ n1_ n2_ n3_ n4_ n5_ n6_ n7_ n8_ n9_ n10_ n11_
            clear hb ho38
            refine hK.out _ _ ⟨(blk_cell BK686.out 0).trans rfl, (blk_cell BK686.out 1).trans rfl, (blk_cell BK686.out 2).trans rfl, (blk_cell BK686.out 3).trans rfl, (blk_cell BK697.out 0).trans rfl, (blk_cell BK697.out 1).trans rfl, (blk_cell BK697.out 2).trans rfl, (blk_cell BK697.out 3).trans rfl⟩ (fun hHeld => ?_)
            clear hK K
            refine norm_ (a' := ?_) ?_ ?_
            rotate_left
            · show Act.put _ (some 29) _ = _
              simp only [Act.put, List.setIfInBounds_toArray, List.set_cons_zero, List.set_cons_succ, i64_w, i32_w]
              rfl
            exact norm_ (by simp only [putAll, Act.put, List.setIfInBounds_toArray, List.set_cons_zero, List.set_cons_succ]) (hCont (v699, v702) _ ⟨hHeld, (by (with_reducible repeat (first | apply Kd.V_alloc | apply Kd.V_drewN | apply Kd.V_drew)); exact Kd.V_mono HO679.out (fun _ hk => ⟨hk.1.2, ⟨hk.2, ⟨hk.1.1.1, ⟨hk.1.1.2.1, hk.1.1.2.2⟩⟩⟩⟩)), (by (with_reducible repeat (first | apply Kd.V_alloc | apply Kd.V_drewN | apply Kd.V_drew)); exact Kd.V_mono HO682.out (fun _ hk => ⟨hk.1.2, ⟨hk.2, ⟨hk.1.1.1, ⟨hk.1.1.2.1, hk.1.1.2.2⟩⟩⟩⟩)), (by (with_reducible repeat (first | apply Kd.V_alloc | apply Kd.V_drewN | apply Kd.V_drew)); exact Kd.V_mono HO685.out (fun _ hk => ⟨hk.1.2, ⟨hk.2, ⟨hk.1.1.1, ⟨hk.1.1.2.1, hk.1.1.2.2⟩⟩⟩⟩)), (by (with_reducible repeat (first | apply Kd.V_alloc | apply Kd.V_drewN | apply Kd.V_drew)); exact Kd.V_mono HO690.out (fun _ hk => ⟨hk.1.2, ⟨hk.2, ⟨hk.1.1.1, ⟨hk.1.1.2.1, hk.1.1.2.2⟩⟩⟩⟩)), (by (with_reducible repeat (first | apply Kd.V_alloc | apply Kd.V_drewN | apply Kd.V_drew)); exact Kd.V_mono HO693.out (fun _ hk => ⟨hk.1.2, ⟨hk.2, ⟨hk.1.1.1, ⟨hk.1.1.2.1, hk.1.1.2.2⟩⟩⟩⟩)), (by (with_reducible repeat (first | apply Kd.V_alloc | apply Kd.V_drewN | apply Kd.V_drew)); exact Kd.V_mono HO696.out (fun _ hk => ⟨hk.1.2, ⟨hk.2, ⟨hk.1.1.1, ⟨hk.1.1.2.1, hk.1.1.2.2⟩⟩⟩⟩)), (by (with_reducible repeat (first | apply Kd.N_alloc | apply Kd.N_drewN | apply Kd.N_drew)); exact Kd.N_mono HO700.out (fun _ hk => ⟨hk.2, ⟨hk.1.1, ⟨hk.1.2.1, hk.1.2.2⟩⟩⟩)), (by (with_reducible repeat (first | apply Kd.N_alloc | apply Kd.N_drewN | apply Kd.N_drew)); exact HO703.out), (by (with_reducible repeat (first | refine blk_drewN ?_ _ | refine blk_drew ?_ | refine blk_alloc ?_ _)); exact BK673.out), (by (with_reducible repeat (first | refine blk_drewN ?_ _ | refine blk_drew ?_ | refine blk_alloc ?_ _)); exact BK686.out), (by (with_reducible repeat (first | refine blk_drewN ?_ _ | refine blk_drew ?_ | refine blk_alloc ?_ _)); exact BK697.out), (by repeat (first | (with_reducible first | exact HB.out | apply below_alloc | apply pw_below_drewN | apply below_drew1 | refine below_set ?_ GE673.out | refine below_set ?_ GE686.out | refine below_set ?_ GE697.out) | exact HB.out))⟩)
          · skip
            refine Kd.N_lit_step k27 _ 27 ?hg (N' := 29) ?hd (xs := ([(⟨t687, t688, t691, t694⟩ : S27)] : List (S27))) (inner := [.bool t687, .slice Ao30 t688.length co30, .slice Ao31 t691.length co31, .slice Ao32 t694.length co32]) (ok := (fun k_ => k_ ≠ gb673 ∧ k_ ≠ gb686 ∧ k_ ≠ gb697)) (okp := (fun k_ => k_ ≠ gb673 ∧ k_ ≠ gb686 ∧ k_ ≠ gb697)) ?hr ?hp (fun _ hk => hk) ((show ∀ k_, w34.heap.size ≤ k_ → (fun k_ => k_ ≠ gb673 ∧ k_ ≠ gb686 ∧ k_ ≠ gb697) k_ from fun k_ hk => ⟨Kd.freshB (g := gb673) (o := .cells #[.int .i64 a2_0, .bool a2_1] 30 (0, 0)) (by (with_reducible repeat (first | refine blk_drewN ?_ _ | refine blk_drew ?_ | refine blk_alloc ?_ _)); exact BK673.out) k_ hk, Kd.freshB (g := gb686) (o := .cells #[.bool t676, .slice Ao20 t677.length co20, .slice Ao21 t680.length co21, .slice Ao22 t683.length co22] 27 (0, 0)) (by (with_reducible repeat (first | refine blk_drewN ?_ _ | refine blk_drew ?_ | refine blk_alloc ?_ _)); exact BK686.out) k_ hk, Kd.freshB (g := gb697) (o := .cells #[.bool t687, .slice Ao30 t688.length co30, .slice Ao31 t691.length co31, .slice Ao32 t694.length co32] 27 (0, 0)) (by (with_reducible repeat (first | refine blk_drewN ?_ _ | refine blk_drew ?_ | refine blk_alloc ?_ _)); exact BK697.out) k_ hk⟩) _ (Nat.le_refl _)) (Below.refl _ _) (Nat.le_refl _) (by simp) ?_; (case hd => rfl); (case hg => rfl); (case hr => first | (go_simp; done) | (go_simp; rfl)); (case hp => exact (Reps.c4 (show Kd.FK k27 _ _ (⟨t687, t688, t691, t694⟩ : S27) [.bool t687, .slice Ao30 t688.length co30, .slice Ao31 t691.length co31, .slice Ao32 t694.length co32] from (k27_mkF _ _ (⟨t687, t688, t691, t694⟩ : S27) (Kd.V_reads' (Kd.V_mono (ok' := (fun k_ => k_ ≠ gb673 ∧ k_ ≠ gb686 ∧ k_ ≠ gb697)) (HO690.out) (fun k_ hk => ⟨hk.1, ⟨hk.2.1, hk.2.2⟩⟩))).2.1 (Kd.V_F (Kd.V_mono (ok' := (fun k_ => k_ ≠ gb673 ∧ k_ ≠ gb686 ∧ k_ ≠ gb697)) (HO690.out) (fun k_ hk => ⟨hk.1, ⟨hk.2.1, hk.2.2⟩⟩))) (Kd.V_reads' (Kd.V_mono (ok' := (fun k_ => k_ ≠ gb673 ∧ k_ ≠ gb686 ∧ k_ ≠ gb697)) (HO693.out) (fun k_ hk => ⟨hk.1, ⟨hk.2.1, hk.2.2⟩⟩))).2.1 (Kd.V_F (Kd.V_mono (ok' := (fun k_ => k_ ≠ gb673 ∧ k_ ≠ gb686 ∧ k_ ≠ gb697)) (HO693.out) (fun k_ hk => ⟨hk.1, ⟨hk.2.1, hk.2.2⟩⟩))) (Kd.V_reads' (Kd.V_mono (ok' := (fun k_ => k_ ≠ gb673 ∧ k_ ≠ gb686 ∧ k_ ≠ gb697)) (HO696.out) (fun k_ hk => ⟨hk.1, ⟨hk.2.1, hk.2.2⟩⟩))).2.1 (Kd.V_F (Kd.V_mono (ok' := (fun k_ => k_ ≠ gb673 ∧ k_ ≠ gb686 ∧ k_ ≠ gb697)) (HO696.out) (fun k_ hk => ⟨hk.1, ⟨hk.2.1, hk.2.2⟩⟩))))) (Reps.none _ _)))
            intro v702 w35 ho36 hb hg_ hnew_
            clear hg_ hnew_
            (first | rw [← Ny701.out] at ho36 | (simp only [Int.reduceToNat] at ho36; rw [← Ny701.out] at ho36))
            have n0_ := Aside0.mk (Kd.V_elder' (by (with_reducible repeat (first | apply Kd.V_alloc | apply Kd.V_drewN | apply Kd.V_drew)); exact HO679.out) (Kd.N_base ho36) hb)
            have n1_ := Aside0.mk (Kd.V_elder' (by (with_reducible repeat (first | apply Kd.V_alloc | apply Kd.V_drewN | apply Kd.V_drew)); exact HO682.out) (Kd.N_base ho36) hb)
            have n2_ := Aside0.mk (Kd.V_elder' (by (with_reducible repeat (first | apply Kd.V_alloc | apply Kd.V_drewN | apply Kd.V_drew)); exact HO685.out) (Kd.N_base ho36) hb)
            have n3_ := Aside0.mk (Kd.V_elder' (by (with_reducible repeat (first | apply Kd.V_alloc | apply Kd.V_drewN | apply Kd.V_drew)); exact HO690.out) (Kd.N_base ho36) hb)
            have n4_ := Aside0.mk (Kd.V_elder' (by (with_reducible repeat (first | apply Kd.V_alloc | apply Kd.V_drewN | apply Kd.V_drew)); exact HO693.out) (Kd.N_base ho36) hb)
            have n5_ := Aside0.mk (Kd.V_elder' (by (with_reducible repeat (first | apply Kd.V_alloc | apply Kd.V_drewN | apply Kd.V_drew)); exact HO696.out) (Kd.N_base ho36) hb)
            have n6_ := Aside0.mk (Kd.N_lower ho36 (below_size (by repeat (first | (with_reducible first | exact HB.out | apply below_alloc | apply pw_below_drewN | apply below_drew1 | refine below_set ?_ GE673.out | refine below_set ?_ GE686.out | refine below_set ?_ GE697.out) | exact HB.out))))
            have n7_ := Aside0.mk (blk_below (g := gb673) (o := .cells #[.int .i64 a2_0, .bool a2_1] 30 (0, 0)) (by (with_reducible repeat (first | refine blk_drewN ?_ _ | refine blk_drew ?_ | refine blk_alloc ?_ _)); exact BK673.out) hb)
            have n8_ := Aside0.mk (blk_below (g := gb686) (o := .cells #[.bool t676, .slice Ao20 t677.length co20, .slice Ao21 t680.length co21, .slice Ao22 t683.length co22] 27 (0, 0)) (by (with_reducible repeat (first | refine blk_drewN ?_ _ | refine blk_drew ?_ | refine blk_alloc ?_ _)); exact BK686.out) hb)
            have n9_ := Aside0.mk (blk_below (g := gb697) (o := .cells #[.bool t687, .slice Ao30 t688.length co30, .slice Ao31 t691.length co31, .slice Ao32 t694.length co32] 27 (0, 0)) (by (with_reducible repeat (first | refine blk_drewN ?_ _ | refine blk_drew ?_ | refine blk_alloc ?_ _)); exact BK697.out) hb)
            have n10_ := Aside0.mk (below_step (by repeat (first | (with_reducible first | exact HB.out | apply below_alloc | apply pw_below_drewN | apply below_drew1 | refine below_set ?_ GE673.out | refine below_set ?_ GE686.out | refine below_set ?_ GE697.out) | exact HB.out)) hb)
            clear HO679
            clear HO682
            clear HO685
            clear HO690
            clear HO693
            clear HO696
            clear BK673
            clear BK686
            clear BK697
            clear HB
            have HO679 := n0_
            have HO682 := n1_
            have HO685 := n2_
            have HO690 := n3_
            have HO693 := n4_
            have HO696 := n5_
            have HO703 := n6_
            have BK673 := n7_
            have BK686 := n8_
            have BK697 := n9_
            have HB := n10_
            clear n0_ n1_ n2_ n3_ n4_ n5_ n6_ n7_ n8_ n9_ n10_
            clear hb ho36
            refine hK.out _ _ ⟨(blk_cell BK686.out 0).trans rfl, (blk_cell BK686.out 1).trans rfl, (blk_cell BK686.out 2).trans rfl, (blk_cell BK686.out 3).trans rfl, (blk_cell BK697.out 0).trans rfl, (blk_cell BK697.out 1).trans rfl, (blk_cell BK697.out 2).trans rfl, (blk_cell BK697.out 3).trans rfl⟩ (fun hHeld => ?_)
            clear hK K
            refine norm_ (a' := ?_) ?_ ?_
            rotate_left
            · show Act.put _ (some 29) _ = _
              simp only [Act.put, List.setIfInBounds_toArray, List.set_cons_zero, List.set_cons_succ, i64_w, i32_w]
              rfl
            refine one_ (i := 3) (N := some 27) #[true, true, true, true, true, true, false, false, false, false, false, false, false, false, false, false, false, false] rfl rfl (one_of HT_.out (by kernel_rfl)) (by decide) (fun K hK => ?_)
            refine Kd.N_lit_step k27 _ 27 ?hg (N' := 27) ?hd (xs := ([(⟨t676, t677, t680, t683⟩ : S27)] : List (S27))) (inner := [.bool t676, .slice Ao20 t677.length co20, .slice Ao21 t680.length co21, .slice Ao22 t683.length co22]) (ok := (fun k_ => some k_ ≠ (v702 : Value).ownBlock ∧ k_ ≠ gb673 ∧ k_ ≠ gb686 ∧ k_ ≠ gb697)) (okp := (fun k_ => some k_ ≠ (v702 : Value).ownBlock ∧ k_ ≠ gb673 ∧ k_ ≠ gb686 ∧ k_ ≠ gb697)) ?hr ?hp (fun _ hk => hk) ((show ∀ k_, w35.heap.size ≤ k_ → (fun k_ => some k_ ≠ (v702 : Value).ownBlock ∧ k_ ≠ gb673 ∧ k_ ≠ gb686 ∧ k_ ≠ gb697) k_ from fun k_ hk => ⟨Kd.fresh' (Kd.N_lt (by (with_reducible repeat (first | apply Kd.N_alloc | apply Kd.N_drewN | apply Kd.N_drew)); exact HO703.out)) k_ hk, Kd.freshB (g := gb673) (o := .cells #[.int .i64 a2_0, .bool a2_1] 30 (0, 0)) (by (with_reducible repeat (first | refine blk_drewN ?_ _ | refine blk_drew ?_ | refine blk_alloc ?_ _)); exact BK673.out) k_ hk, Kd.freshB (g := gb686) (o := .cells #[.bool t676, .slice Ao20 t677.length co20, .slice Ao21 t680.length co21, .slice Ao22 t683.length co22] 27 (0, 0)) (by (with_reducible repeat (first | refine blk_drewN ?_ _ | refine blk_drew ?_ | refine blk_alloc ?_ _)); exact BK686.out) k_ hk, Kd.freshB (g := gb697) (o := .cells #[.bool t687, .slice Ao30 t688.length co30, .slice Ao31 t691.length co31, .slice Ao32 t694.length co32] 27 (0, 0)) (by (with_reducible repeat (first | refine blk_drewN ?_ _ | refine blk_drew ?_ | refine blk_alloc ?_ _)); exact BK697.out) k_ hk⟩) _ (Nat.le_refl _)) (Below.refl _ _) (Nat.le_refl _) (by simp) ?_; (case hd => rfl); (case hg => rfl); (case hr => first | (go_simp; done) | (go_simp; rfl)); (case hp => exact (Reps.c4 (show Kd.FK k27 _ _ (⟨t676, t677, t680, t683⟩ : S27) [.bool t676, .slice Ao20 t677.length co20, .slice Ao21 t680.length co21, .slice Ao22 t683.length co22] from (k27_mkF _ _ (⟨t676, t677, t680, t683⟩ : S27) (Kd.V_reads' (Kd.V_mono (ok' := (fun k_ => some k_ ≠ (v702 : Value).ownBlock ∧ k_ ≠ gb673 ∧ k_ ≠ gb686 ∧ k_ ≠ gb697)) (HO679.out) (fun k_ hk => ⟨hk.2, ⟨hk.1.1, ⟨hk.1.2.1, hk.1.2.2⟩⟩⟩))).2.1 (Kd.V_F (Kd.V_mono (ok' := (fun k_ => some k_ ≠ (v702 : Value).ownBlock ∧ k_ ≠ gb673 ∧ k_ ≠ gb686 ∧ k_ ≠ gb697)) (HO679.out) (fun k_ hk => ⟨hk.2, ⟨hk.1.1, ⟨hk.1.2.1, hk.1.2.2⟩⟩⟩))) (Kd.V_reads' (Kd.V_mono (ok' := (fun k_ => some k_ ≠ (v702 : Value).ownBlock ∧ k_ ≠ gb673 ∧ k_ ≠ gb686 ∧ k_ ≠ gb697)) (HO682.out) (fun k_ hk => ⟨hk.2, ⟨hk.1.1, ⟨hk.1.2.1, hk.1.2.2⟩⟩⟩))).2.1 (Kd.V_F (Kd.V_mono (ok' := (fun k_ => some k_ ≠ (v702 : Value).ownBlock ∧ k_ ≠ gb673 ∧ k_ ≠ gb686 ∧ k_ ≠ gb697)) (HO682.out) (fun k_ hk => ⟨hk.2, ⟨hk.1.1, ⟨hk.1.2.1, hk.1.2.2⟩⟩⟩))) (Kd.V_reads' (Kd.V_mono (ok' := (fun k_ => some k_ ≠ (v702 : Value).ownBlock ∧ k_ ≠ gb673 ∧ k_ ≠ gb686 ∧ k_ ≠ gb697)) (HO685.out) (fun k_ hk => ⟨hk.2, ⟨hk.1.1, ⟨hk.1.2.1, hk.1.2.2⟩⟩⟩))).2.1 (Kd.V_F (Kd.V_mono (ok' := (fun k_ => some k_ ≠ (v702 : Value).ownBlock ∧ k_ ≠ gb673 ∧ k_ ≠ gb686 ∧ k_ ≠ gb697)) (HO685.out) (fun k_ hk => ⟨hk.2, ⟨hk.1.1, ⟨hk.1.2.1, hk.1.2.2⟩⟩⟩))))) (Reps.none _ _)))
            intro v699 w37 ho38 hb hg_ hnew_
            clear hg_ hnew_
            (first | rw [← Ny698.out] at ho38 | (simp only [Int.reduceToNat] at ho38; rw [← Ny698.out] at ho38))
            have n0_ := Aside0.mk (Kd.V_elder' (by (with_reducible repeat (first | apply Kd.V_alloc | apply Kd.V_drewN | apply Kd.V_drew)); exact HO679.out) (Kd.N_base ho38) hb)
            have n1_ := Aside0.mk (Kd.V_elder' (by (with_reducible repeat (first | apply Kd.V_alloc | apply Kd.V_drewN | apply Kd.V_drew)); exact HO682.out) (Kd.N_base ho38) hb)
            have n2_ := Aside0.mk (Kd.V_elder' (by (with_reducible repeat (first | apply Kd.V_alloc | apply Kd.V_drewN | apply Kd.V_drew)); exact HO685.out) (Kd.N_base ho38) hb)
            have n3_ := Aside0.mk (Kd.V_elder' (by (with_reducible repeat (first | apply Kd.V_alloc | apply Kd.V_drewN | apply Kd.V_drew)); exact HO690.out) (Kd.N_base ho38) hb)
            have n4_ := Aside0.mk (Kd.V_elder' (by (with_reducible repeat (first | apply Kd.V_alloc | apply Kd.V_drewN | apply Kd.V_drew)); exact HO693.out) (Kd.N_base ho38) hb)
            have n5_ := Aside0.mk (Kd.V_elder' (by (with_reducible repeat (first | apply Kd.V_alloc | apply Kd.V_drewN | apply Kd.V_drew)); exact HO696.out) (Kd.N_base ho38) hb)
            have n6_ := Aside0.mk (Kd.N_elder' (by (with_reducible repeat (first | apply Kd.N_alloc | apply Kd.N_drewN | apply Kd.N_drew)); exact HO703.out) (Kd.N_base ho38) hb)
            have n7_ := Aside0.mk (Kd.N_lower ho38 (below_size (by repeat (first | (with_reducible first | exact HB.out | apply below_alloc | apply pw_below_drewN | apply below_drew1 | refine below_set ?_ GE673.out | refine below_set ?_ GE686.out | refine below_set ?_ GE697.out) | exact HB.out))))
            have n8_ := Aside0.mk (blk_below (g := gb673) (o := .cells #[.int .i64 a2_0, .bool a2_1] 30 (0, 0)) (by (with_reducible repeat (first | refine blk_drewN ?_ _ | refine blk_drew ?_ | refine blk_alloc ?_ _)); exact BK673.out) hb)
            have n9_ := Aside0.mk (blk_below (g := gb686) (o := .cells #[.bool t676, .slice Ao20 t677.length co20, .slice Ao21 t680.length co21, .slice Ao22 t683.length co22] 27 (0, 0)) (by (with_reducible repeat (first | refine blk_drewN ?_ _ | refine blk_drew ?_ | refine blk_alloc ?_ _)); exact BK686.out) hb)
            have n10_ := Aside0.mk (blk_below (g := gb697) (o := .cells #[.bool t687, .slice Ao30 t688.length co30, .slice Ao31 t691.length co31, .slice Ao32 t694.length co32] 27 (0, 0)) (by (with_reducible repeat (first | refine blk_drewN ?_ _ | refine blk_drew ?_ | refine blk_alloc ?_ _)); exact BK697.out) hb)
            have n11_ := Aside0.mk (below_step (by repeat (first | (with_reducible first | exact HB.out | apply below_alloc | apply pw_below_drewN | apply below_drew1 | refine below_set ?_ GE673.out | refine below_set ?_ GE686.out | refine below_set ?_ GE697.out) | exact HB.out)) hb)
            clear HO679
            clear HO682
            clear HO685
            clear HO690
            clear HO693
            clear HO696
            clear HO703
            clear BK673
            clear BK686
            clear BK697
            clear HB
            have HO679 := n0_
            have HO682 := n1_
            have HO685 := n2_
            have HO690 := n3_
            have HO693 := n4_
            have HO696 := n5_
            have HO703 := n6_
            have HO700 := n7_
            have BK673 := n8_
            have BK686 := n9_
            have BK697 := n10_
            have HB := n11_
            clear n0_ n1_ n2_ n3_ n4_ n5_ n6_ n7_ n8_ n9_ n10_ n11_
            clear hb ho38
            refine hK.out _ _ ⟨(blk_cell BK686.out 0).trans rfl, (blk_cell BK686.out 1).trans rfl, (blk_cell BK686.out 2).trans rfl, (blk_cell BK686.out 3).trans rfl, (blk_cell BK697.out 0).trans rfl, (blk_cell BK697.out 1).trans rfl, (blk_cell BK697.out 2).trans rfl, (blk_cell BK697.out 3).trans rfl⟩ (fun hHeld => ?_)
            clear hK K
            refine norm_ (a' := ?_) ?_ ?_
            rotate_left
            · show Act.put _ (some 27) _ = _
              simp only [Act.put, List.setIfInBounds_toArray, List.set_cons_zero, List.set_cons_succ, i64_w, i32_w]
              rfl
            exact norm_ (by simp only [putAll, Act.put, List.setIfInBounds_toArray, List.set_cons_zero, List.set_cons_succ]) (hCont (v699, v702) _ ⟨hHeld, (by (with_reducible repeat (first | apply Kd.V_alloc | apply Kd.V_drewN | apply Kd.V_drew)); exact Kd.V_mono HO679.out (fun _ hk => ⟨hk.2, ⟨hk.1.2, ⟨hk.1.1.1, ⟨hk.1.1.2.1, hk.1.1.2.2⟩⟩⟩⟩)), (by (with_reducible repeat (first | apply Kd.V_alloc | apply Kd.V_drewN | apply Kd.V_drew)); exact Kd.V_mono HO682.out (fun _ hk => ⟨hk.2, ⟨hk.1.2, ⟨hk.1.1.1, ⟨hk.1.1.2.1, hk.1.1.2.2⟩⟩⟩⟩)), (by (with_reducible repeat (first | apply Kd.V_alloc | apply Kd.V_drewN | apply Kd.V_drew)); exact Kd.V_mono HO685.out (fun _ hk => ⟨hk.2, ⟨hk.1.2, ⟨hk.1.1.1, ⟨hk.1.1.2.1, hk.1.1.2.2⟩⟩⟩⟩)), (by (with_reducible repeat (first | apply Kd.V_alloc | apply Kd.V_drewN | apply Kd.V_drew)); exact Kd.V_mono HO690.out (fun _ hk => ⟨hk.2, ⟨hk.1.2, ⟨hk.1.1.1, ⟨hk.1.1.2.1, hk.1.1.2.2⟩⟩⟩⟩)), (by (with_reducible repeat (first | apply Kd.V_alloc | apply Kd.V_drewN | apply Kd.V_drew)); exact Kd.V_mono HO693.out (fun _ hk => ⟨hk.2, ⟨hk.1.2, ⟨hk.1.1.1, ⟨hk.1.1.2.1, hk.1.1.2.2⟩⟩⟩⟩)), (by (with_reducible repeat (first | apply Kd.V_alloc | apply Kd.V_drewN | apply Kd.V_drew)); exact Kd.V_mono HO696.out (fun _ hk => ⟨hk.2, ⟨hk.1.2, ⟨hk.1.1.1, ⟨hk.1.1.2.1, hk.1.1.2.2⟩⟩⟩⟩)), (by (with_reducible repeat (first | apply Kd.N_alloc | apply Kd.N_drewN | apply Kd.N_drew)); exact HO700.out), (by (with_reducible repeat (first | apply Kd.N_alloc | apply Kd.N_drewN | apply Kd.N_drew)); exact Kd.N_mono HO703.out (fun _ hk => ⟨hk.2, ⟨hk.1.1, ⟨hk.1.2.1, hk.1.2.2⟩⟩⟩)), (by (with_reducible repeat (first | refine blk_drewN ?_ _ | refine blk_drew ?_ | refine blk_alloc ?_ _)); exact BK673.out), (by (with_reducible repeat (first | refine blk_drewN ?_ _ | refine blk_drew ?_ | refine blk_alloc ?_ _)); exact BK686.out), (by (with_reducible repeat (first | refine blk_drewN ?_ _ | refine blk_drew ?_ | refine blk_alloc ?_ _)); exact BK697.out), (by repeat (first | (with_reducible first | exact HB.out | apply below_alloc | apply pw_below_drewN | apply below_drew1 | refine below_set ?_ GE673.out | refine below_set ?_ GE686.out | refine below_set ?_ GE697.out) | exact HB.out))⟩)
        rintro ⟨v699, v702⟩ w39 ⟨hS_, h0_, h1_, h2_, h3_, h4_, h5_, h6_, h7_, h8_, h9_, h10_, h11_⟩
        have n0_ : Aside0 (Kd.V Kd.string 9 w39 w.heap.size (fun k_ => some k_ ≠ (v699 : Value).ownBlock ∧ some k_ ≠ (v702 : Value).ownBlock ∧ k_ ≠ gb673 ∧ k_ ≠ gb686 ∧ k_ ≠ gb697) (.slice Ao20 t677.length co20) t677) := ⟨h0_⟩
        have n1_ : Aside0 (Kd.V Kd.string 9 w39 w.heap.size (fun k_ => some k_ ≠ (v699 : Value).ownBlock ∧ some k_ ≠ (v702 : Value).ownBlock ∧ k_ ≠ gb673 ∧ k_ ≠ gb686 ∧ k_ ≠ gb697) (.slice Ao21 t680.length co21) t680) := ⟨h1_⟩
        have n2_ : Aside0 (Kd.V (Kd.slice 9 Kd.string) 22 w39 w.heap.size (fun k_ => some k_ ≠ (v699 : Value).ownBlock ∧ some k_ ≠ (v702 : Value).ownBlock ∧ k_ ≠ gb673 ∧ k_ ≠ gb686 ∧ k_ ≠ gb697) (.slice Ao22 t683.length co22) t683) := ⟨h2_⟩
        have n3_ : Aside0 (Kd.V Kd.string 9 w39 w.heap.size (fun k_ => some k_ ≠ (v699 : Value).ownBlock ∧ some k_ ≠ (v702 : Value).ownBlock ∧ k_ ≠ gb673 ∧ k_ ≠ gb686 ∧ k_ ≠ gb697) (.slice Ao30 t688.length co30) t688) := ⟨h3_⟩
        have n4_ : Aside0 (Kd.V Kd.string 9 w39 w.heap.size (fun k_ => some k_ ≠ (v699 : Value).ownBlock ∧ some k_ ≠ (v702 : Value).ownBlock ∧ k_ ≠ gb673 ∧ k_ ≠ gb686 ∧ k_ ≠ gb697) (.slice Ao31 t691.length co31) t691) := ⟨h4_⟩
        have n5_ : Aside0 (Kd.V (Kd.slice 9 Kd.string) 22 w39 w.heap.size (fun k_ => some k_ ≠ (v699 : Value).ownBlock ∧ some k_ ≠ (v702 : Value).ownBlock ∧ k_ ≠ gb673 ∧ k_ ≠ gb686 ∧ k_ ≠ gb697) (.slice Ao32 t694.length co32) t694) := ⟨h5_⟩
        have n6_ : Aside0 (Kd.N k27 27 w39 w.heap.size (fun k_ => some k_ ≠ (v702 : Value).ownBlock ∧ k_ ≠ gb673 ∧ k_ ≠ gb686 ∧ k_ ≠ gb697) v699 y698) := ⟨h6_⟩
        have n7_ : Aside0 (Kd.N k27 27 w39 w.heap.size (fun k_ => some k_ ≠ (v699 : Value).ownBlock ∧ k_ ≠ gb673 ∧ k_ ≠ gb686 ∧ k_ ≠ gb697) v702 y701) := ⟨h7_⟩
        have n8_ : Aside0 (w39.heap[gb673]? = some (.cells #[.int .i64 a2_0, .bool a2_1] 30 (0, 0))) := ⟨h8_⟩
        have n9_ : Aside0 (w39.heap[gb686]? = some (.cells #[.bool t676, .slice Ao20 t677.length co20, .slice Ao21 t680.length co21, .slice Ao22 t683.length co22] 27 (0, 0))) := ⟨h9_⟩
        have n10_ : Aside0 (w39.heap[gb697]? = some (.cells #[.bool t687, .slice Ao30 t688.length co30, .slice Ao31 t691.length co31, .slice Ao32 t694.length co32] 27 (0, 0))) := ⟨h10_⟩
        have n11_ : Aside0 (Below w.heap.size w w39) := ⟨h11_⟩
        clear HO679
        clear HO682
        clear HO685
        clear HO690
        clear HO693
        clear HO696
        clear BK673
        clear BK686
        clear BK697
        clear HB
        clear h0_ h1_ h2_ h3_ h4_ h5_ h6_ h7_ h8_ h9_ h10_ h11_
        have HO679 := n0_
        have HO682 := n1_
        have HO685 := n2_
        have HO690 := n3_
        have HO693 := n4_
        have HO696 := n5_
        have HO700 := n6_
        have HO703 := n7_
        have BK673 := n8_
        have BK686 := n9_
        have BK697 := n10_
        have HB := n11_
        clear n0_ n1_ n2_ n3_ n4_ n5_ n6_ n7_ n8_ n9_ n10_ n11_
        have hHeld : w39.cell? ⟨gb686, 0, none⟩ = some (.bool t676) ∧ w39.cell? ⟨gb686, 1, none⟩ = some (.slice Ao20 t677.length co20) ∧ w39.cell? ⟨gb686, 2, none⟩ = some (.slice Ao21 t680.length co21) ∧ w39.cell? ⟨gb686, 3, none⟩ = some (.slice Ao22 t683.length co22) ∧ w39.cell? ⟨gb697, 0, none⟩ = some (.bool t687) ∧ w39.cell? ⟨gb697, 1, none⟩ = some (.slice Ao30 t688.length co30) ∧ w39.cell? ⟨gb697, 2, none⟩ = some (.slice Ao31 t691.length co31) ∧ w39.cell? ⟨gb697, 3, none⟩ = some (.slice Ao32 t694.length co32) := hS_
        obtain ⟨Ao40, co40, eo40⟩ := Kd.N_slice HO700.out
        (first | subst eo40 | (injection eo40 with f1_ f2_ f3_; have f4_ := f1_.symm; have f5_ := f3_.symm; clear f1_ f2_ f3_; subst f4_; subst f5_))
        obtain ⟨Ao41, co41, eo41⟩ := Kd.N_slice HO703.out
        (first | subst eo41 | (injection eo41 with f1_ f2_ f3_; have f4_ := f1_.symm; have f5_ := f3_.symm; clear f1_ f2_ f3_; subst f4_; subst f5_))
        refine norm_ (a' := ?_) ?_ ?_
        rotate_left
        · simp only [putAll, Act.put, List.setIfInBounds_toArray, List.set_cons_zero, List.set_cons_succ]
          rfl
        refine one_ (i := 6) (N := some 30) #[true, true, true, true, true, true, true, false, false, false, false, false, false, false, false, false, false, false] rfl rfl (one_of HT_.out (by kernel_rfl)) (by decide) (fun K hK => ?_)
        refine goes_ Try.func34 (by kernel_rfl) rfl #[.slice Ao40 y698.length co40, .slice Ao41 y701.length co41] (by rfl) rfl rfl (by (try simp only [List.map_toArray, List.map_cons, List.map_nil]); first | done | rfl | (simp only [List.length_drop, List.length_take]; rfl)) ?_
        with_reducible refine (sennitref07_Same.calls k _ _ y698 _ _ y701 true _ ?side1 ?side2 ?side3 ?side4 A10.out).mono ?_
        (case side1 => repeat (first | exact (Kd.N_reads' HO700.out).2.2 | (with_reducible refine Kd.C_alloc ?_ _) | (with_reducible refine Kd.C_drewN ?_ _) | (with_reducible refine Kd.C_drew ?_)))
        (case side2 => exact (Kd.N_reads' HO700.out).2.1)
        (case side3 => repeat (first | exact (Kd.N_reads' HO703.out).2.2 | (with_reducible refine Kd.C_alloc ?_ _) | (with_reducible refine Kd.C_drewN ?_ _) | (with_reducible refine Kd.C_drew ?_)))
        (case side4 => exact (Kd.N_reads' HO703.out).2.1)
        rintro e w' ⟨rfl, ⟨nd, rfl⟩⟩
        refine ⟨_, rfl, ?_⟩
        refine hK.out _ _ ⟨(blk_cell BK686.out 0).trans rfl, (blk_cell BK686.out 1).trans rfl, (blk_cell BK686.out 2).trans rfl, (blk_cell BK686.out 3).trans rfl, (blk_cell BK697.out 0).trans rfl, (blk_cell BK697.out 1).trans rfl, (blk_cell BK697.out 2).trans rfl, (blk_cell BK697.out 3).trans rfl⟩ (fun hHeld => ?_)
        clear hK K
        refine norm_ (a' := ?_) ?_ ?_
        rotate_left
        · show Act.put _ (some 30) _ = _
          simp only [Act.put, List.setIfInBounds_toArray, List.set_cons_zero, List.set_cons_succ, i64_w, i32_w]
          rfl
        refine pure_ (i := 7) (N := some 31) (v := ?_) (a' := ?_) #[true, true, true, true, true, true, true, true, false, false, false, false, false, false, false, false, false, false] rfl rfl (any_of HT_.out (by kernel_rfl)) (fun _ _ _ h => h) (Or.inl ⟨by rfl, ?_⟩) ?_ ?_
        rotate_left
        · intro w'
          go_simp
          with_reducible rfl
        rotate_left
        · simp only [Act.put, List.setIfInBounds_toArray, List.set_cons_zero, List.set_cons_succ, i64_w, i32_w]
          rfl
        refine pure_ (i := 8) (N := some 32) (v := ?_) (a' := ?_) #[true, true, true, true, true, true, true, true, true, false, false, false, false, false, false, false, false, false] rfl rfl (any_of HT_.out (by kernel_rfl)) (fun _ _ _ h => h) (Or.inl ⟨by rfl, ?_⟩) ?_ ?_
        rotate_left
        · intro w'
          go_simp
          with_reducible rfl
        rotate_left
        · simp only [Act.put, List.setIfInBounds_toArray, List.set_cons_zero, List.set_cons_succ, i64_w, i32_w]
          rfl
        refine pure_ (i := 12) (N := some 36) (v := ?_) (a' := ?_) #[true, true, true, true, true, true, true, true, true, false, false, false, true, false, false, false, false, false] rfl rfl (any_of HT_.out (by kernel_rfl)) (fun _ _ _ h => h) (Or.inl ⟨by rfl, ?_⟩) ?_ ?_
        rotate_left
        · intro w'
          go_simp
          with_reducible rfl
        rotate_left
        · simp only [Act.put, List.setIfInBounds_toArray, List.set_cons_zero, List.set_cons_succ, i64_w, i32_w]
          rfl
        refine take_ (i := 9) (N := some 33) (v := ?_) (a' := ?_) #[true, true, true, true, true, true, true, true, true, true, false, false, true, false, false, false, false, false] rfl rfl (take_ofW HT_.out HW_.out (by kernel_rfl)) (fun _ _ _ h => h) (Or.inl ⟨by rfl, ?_⟩) hHeld ?_ ?_
        rotate_left
        · rintro w' ⟨s0, s1, s2, s3, s4, s5, s6, s7⟩
          go_simp
          with_reducible rfl
        rotate_left
        · simp only [Act.put, List.setIfInBounds_toArray, List.set_cons_zero, List.set_cons_succ, i64_w, i32_w]
          rfl
        refine take_ (i := 13) (N := some 37) (v := ?_) (a' := ?_) #[true, true, true, true, true, true, true, true, true, true, false, false, true, true, false, false, false, false] rfl rfl (take_ofW HT_.out HW_.out (by kernel_rfl)) (fun _ _ _ h => h) (Or.inl ⟨by rfl, ?_⟩) hHeld ?_ ?_
        rotate_left
        · rintro w' ⟨s0, s1, s2, s3, s4, s5, s6, s7⟩
          go_simp
          with_reducible rfl
        rotate_left
        · simp only [Act.put, List.setIfInBounds_toArray, List.set_cons_zero, List.set_cons_succ, i64_w, i32_w]
          rfl
        refine pure_ (i := 14) (N := some 38) (v := ?_) (a' := ?_) #[true, true, true, true, true, true, true, true, true, true, false, false, true, true, true, false, false, false] rfl rfl (any_of HT_.out (by kernel_rfl)) (fun _ _ _ h => h) (Or.inl ⟨by rfl, ?_⟩) ?_ ?_
        rotate_left
        · intro w'
          go_simp
          with_reducible rfl
        rotate_left
        · simp only [Act.put, List.setIfInBounds_toArray, List.set_cons_zero, List.set_cons_succ, i64_w, i32_w]
          rfl
        refine one_ (i := 10) (N := some 34) #[true, true, true, true, true, true, true, true, true, true, true, false, true, true, true, false, false, false] rfl rfl (one_of HT_.out (by kernel_rfl)) (by decide) (fun K hK => ?_)
        refine Kd.N_lit_step k27 _ 27 ?hg (N' := 34) ?hd (xs := ([(⟨t676, t677, t680, t683⟩ : S27)] : List (S27))) (inner := [.bool t676, .slice Ao20 t677.length co20, .slice Ao21 t680.length co21, .slice Ao22 t683.length co22]) (ok := (fun k_ => some k_ ≠ (.slice Ao40 y698.length co40 : Value).ownBlock ∧ some k_ ≠ (.slice Ao41 y701.length co41 : Value).ownBlock ∧ k_ ≠ gb673 ∧ k_ ≠ gb686 ∧ k_ ≠ gb697)) (okp := (fun k_ => some k_ ≠ (.slice Ao40 y698.length co40 : Value).ownBlock ∧ some k_ ≠ (.slice Ao41 y701.length co41 : Value).ownBlock ∧ k_ ≠ gb673 ∧ k_ ≠ gb686 ∧ k_ ≠ gb697)) ?hr ?hp (fun _ hk => hk) ((show ∀ k_, w39.heap.size ≤ k_ → (fun k_ => some k_ ≠ (.slice Ao40 y698.length co40 : Value).ownBlock ∧ some k_ ≠ (.slice Ao41 y701.length co41 : Value).ownBlock ∧ k_ ≠ gb673 ∧ k_ ≠ gb686 ∧ k_ ≠ gb697) k_ from fun k_ hk => ⟨Kd.fresh' (Kd.N_lt (by (with_reducible repeat (first | apply Kd.N_alloc | apply Kd.N_drewN | apply Kd.N_drew)); exact HO700.out)) k_ hk, Kd.fresh' (Kd.N_lt (by (with_reducible repeat (first | apply Kd.N_alloc | apply Kd.N_drewN | apply Kd.N_drew)); exact HO703.out)) k_ hk, Kd.freshB (g := gb673) (o := .cells #[.int .i64 a2_0, .bool a2_1] 30 (0, 0)) (by (with_reducible repeat (first | refine blk_drewN ?_ _ | refine blk_drew ?_ | refine blk_alloc ?_ _)); exact BK673.out) k_ hk, Kd.freshB (g := gb686) (o := .cells #[.bool t676, .slice Ao20 t677.length co20, .slice Ao21 t680.length co21, .slice Ao22 t683.length co22] 27 (0, 0)) (by (with_reducible repeat (first | refine blk_drewN ?_ _ | refine blk_drew ?_ | refine blk_alloc ?_ _)); exact BK686.out) k_ hk, Kd.freshB (g := gb697) (o := .cells #[.bool t687, .slice Ao30 t688.length co30, .slice Ao31 t691.length co31, .slice Ao32 t694.length co32] 27 (0, 0)) (by (with_reducible repeat (first | refine blk_drewN ?_ _ | refine blk_drew ?_ | refine blk_alloc ?_ _)); exact BK697.out) k_ hk⟩) _ (Nat.le_refl _)) (Below.refl _ _) (Nat.le_refl _) (by simp) ?_; (case hd => rfl); (case hg => rfl); (case hr => first | (go_simp; done) | (go_simp; rfl)); (case hp => exact (Reps.c4 (show Kd.FK k27 _ _ (⟨t676, t677, t680, t683⟩ : S27) [.bool t676, .slice Ao20 t677.length co20, .slice Ao21 t680.length co21, .slice Ao22 t683.length co22] from (k27_mkF _ _ (⟨t676, t677, t680, t683⟩ : S27) (Kd.V_reads' (Kd.V_mono (ok' := (fun k_ => some k_ ≠ (.slice Ao40 y698.length co40 : Value).ownBlock ∧ some k_ ≠ (.slice Ao41 y701.length co41 : Value).ownBlock ∧ k_ ≠ gb673 ∧ k_ ≠ gb686 ∧ k_ ≠ gb697)) (HO679.out) (fun k_ hk => ⟨hk.1, ⟨hk.2.1, ⟨hk.2.2.1, ⟨hk.2.2.2.1, hk.2.2.2.2⟩⟩⟩⟩))).2.1 (Kd.V_F (Kd.V_mono (ok' := (fun k_ => some k_ ≠ (.slice Ao40 y698.length co40 : Value).ownBlock ∧ some k_ ≠ (.slice Ao41 y701.length co41 : Value).ownBlock ∧ k_ ≠ gb673 ∧ k_ ≠ gb686 ∧ k_ ≠ gb697)) (HO679.out) (fun k_ hk => ⟨hk.1, ⟨hk.2.1, ⟨hk.2.2.1, ⟨hk.2.2.2.1, hk.2.2.2.2⟩⟩⟩⟩))) (Kd.V_reads' (Kd.V_mono (ok' := (fun k_ => some k_ ≠ (.slice Ao40 y698.length co40 : Value).ownBlock ∧ some k_ ≠ (.slice Ao41 y701.length co41 : Value).ownBlock ∧ k_ ≠ gb673 ∧ k_ ≠ gb686 ∧ k_ ≠ gb697)) (HO682.out) (fun k_ hk => ⟨hk.1, ⟨hk.2.1, ⟨hk.2.2.1, ⟨hk.2.2.2.1, hk.2.2.2.2⟩⟩⟩⟩))).2.1 (Kd.V_F (Kd.V_mono (ok' := (fun k_ => some k_ ≠ (.slice Ao40 y698.length co40 : Value).ownBlock ∧ some k_ ≠ (.slice Ao41 y701.length co41 : Value).ownBlock ∧ k_ ≠ gb673 ∧ k_ ≠ gb686 ∧ k_ ≠ gb697)) (HO682.out) (fun k_ hk => ⟨hk.1, ⟨hk.2.1, ⟨hk.2.2.1, ⟨hk.2.2.2.1, hk.2.2.2.2⟩⟩⟩⟩))) (Kd.V_reads' (Kd.V_mono (ok' := (fun k_ => some k_ ≠ (.slice Ao40 y698.length co40 : Value).ownBlock ∧ some k_ ≠ (.slice Ao41 y701.length co41 : Value).ownBlock ∧ k_ ≠ gb673 ∧ k_ ≠ gb686 ∧ k_ ≠ gb697)) (HO685.out) (fun k_ hk => ⟨hk.1, ⟨hk.2.1, ⟨hk.2.2.1, ⟨hk.2.2.2.1, hk.2.2.2.2⟩⟩⟩⟩))).2.1 (Kd.V_F (Kd.V_mono (ok' := (fun k_ => some k_ ≠ (.slice Ao40 y698.length co40 : Value).ownBlock ∧ some k_ ≠ (.slice Ao41 y701.length co41 : Value).ownBlock ∧ k_ ≠ gb673 ∧ k_ ≠ gb686 ∧ k_ ≠ gb697)) (HO685.out) (fun k_ hk => ⟨hk.1, ⟨hk.2.1, ⟨hk.2.2.1, ⟨hk.2.2.2.1, hk.2.2.2.2⟩⟩⟩⟩))))) (Reps.none _ _)))
        intro v706 w42 ho43 hb hg_ hnew_
        clear hg_ hnew_
        (first | rw [← Ny705.out] at ho43 | (simp only [Int.reduceToNat] at ho43; rw [← Ny705.out] at ho43))
        have n0_ := Aside0.mk (Kd.V_elder' (by (with_reducible repeat (first | apply Kd.V_alloc | apply Kd.V_drewN | apply Kd.V_drew)); exact HO679.out) (Kd.N_base ho43) hb)
        have n1_ := Aside0.mk (Kd.V_elder' (by (with_reducible repeat (first | apply Kd.V_alloc | apply Kd.V_drewN | apply Kd.V_drew)); exact HO682.out) (Kd.N_base ho43) hb)
        have n2_ := Aside0.mk (Kd.V_elder' (by (with_reducible repeat (first | apply Kd.V_alloc | apply Kd.V_drewN | apply Kd.V_drew)); exact HO685.out) (Kd.N_base ho43) hb)
        have n3_ := Aside0.mk (Kd.V_elder' (by (with_reducible repeat (first | apply Kd.V_alloc | apply Kd.V_drewN | apply Kd.V_drew)); exact HO690.out) (Kd.N_base ho43) hb)
        have n4_ := Aside0.mk (Kd.V_elder' (by (with_reducible repeat (first | apply Kd.V_alloc | apply Kd.V_drewN | apply Kd.V_drew)); exact HO693.out) (Kd.N_base ho43) hb)
        have n5_ := Aside0.mk (Kd.V_elder' (by (with_reducible repeat (first | apply Kd.V_alloc | apply Kd.V_drewN | apply Kd.V_drew)); exact HO696.out) (Kd.N_base ho43) hb)
        have n6_ := Aside0.mk (Kd.N_elder' (by (with_reducible repeat (first | apply Kd.N_alloc | apply Kd.N_drewN | apply Kd.N_drew)); exact HO700.out) (Kd.N_base ho43) hb)
        have n7_ := Aside0.mk (Kd.N_elder' (by (with_reducible repeat (first | apply Kd.N_alloc | apply Kd.N_drewN | apply Kd.N_drew)); exact HO703.out) (Kd.N_base ho43) hb)
        have n8_ := Aside0.mk (Kd.N_lower ho43 (below_size (by repeat (first | (with_reducible first | exact HB.out | apply below_alloc | apply pw_below_drewN | apply below_drew1 | refine below_set ?_ GE673.out | refine below_set ?_ GE686.out | refine below_set ?_ GE697.out) | exact HB.out))))
        have n9_ := Aside0.mk (blk_below (g := gb673) (o := .cells #[.int .i64 a2_0, .bool a2_1] 30 (0, 0)) (by (with_reducible repeat (first | refine blk_drewN ?_ _ | refine blk_drew ?_ | refine blk_alloc ?_ _)); exact BK673.out) hb)
        have n10_ := Aside0.mk (blk_below (g := gb686) (o := .cells #[.bool t676, .slice Ao20 t677.length co20, .slice Ao21 t680.length co21, .slice Ao22 t683.length co22] 27 (0, 0)) (by (with_reducible repeat (first | refine blk_drewN ?_ _ | refine blk_drew ?_ | refine blk_alloc ?_ _)); exact BK686.out) hb)
        have n11_ := Aside0.mk (blk_below (g := gb697) (o := .cells #[.bool t687, .slice Ao30 t688.length co30, .slice Ao31 t691.length co31, .slice Ao32 t694.length co32] 27 (0, 0)) (by (with_reducible repeat (first | refine blk_drewN ?_ _ | refine blk_drew ?_ | refine blk_alloc ?_ _)); exact BK697.out) hb)
        have n12_ := Aside0.mk (below_step (by repeat (first | (with_reducible first | exact HB.out | apply below_alloc | apply pw_below_drewN | apply below_drew1 | refine below_set ?_ GE673.out | refine below_set ?_ GE686.out | refine below_set ?_ GE697.out) | exact HB.out)) hb)
        clear HO679
        clear HO682
        clear HO685
        clear HO690
        clear HO693
        clear HO696
        clear HO700
        clear HO703
        clear BK673
        clear BK686
        clear BK697
        clear HB
        have HO679 := n0_
        have HO682 := n1_
        have HO685 := n2_
        have HO690 := n3_
        have HO693 := n4_
        have HO696 := n5_
        have HO700 := n6_
        have HO703 := n7_
        have HO707 := n8_
        have BK673 := n9_
        have BK686 := n10_
        have BK697 := n11_
        have HB := n12_
        clear n0_ n1_ n2_ n3_ n4_ n5_ n6_ n7_ n8_ n9_ n10_ n11_ n12_
        clear hb ho43
        obtain ⟨Ao44, co44, eo44⟩ := Kd.N_slice HO707.out
        (first | subst eo44 | (injection eo44 with f1_ f2_ f3_; have f4_ := f1_.symm; have f5_ := f3_.symm; clear f1_ f2_ f3_; subst f4_; subst f5_))
        refine hK.out _ _ ⟨(blk_cell BK686.out 0).trans rfl, (blk_cell BK686.out 1).trans rfl, (blk_cell BK686.out 2).trans rfl, (blk_cell BK686.out 3).trans rfl, (blk_cell BK697.out 0).trans rfl, (blk_cell BK697.out 1).trans rfl, (blk_cell BK697.out 2).trans rfl, (blk_cell BK697.out 3).trans rfl⟩ (fun hHeld => ?_)
        clear hK K
        refine norm_ (a' := ?_) ?_ ?_
        rotate_left
        · show Act.put _ (some 34) _ = _
          simp only [Act.put, List.setIfInBounds_toArray, List.set_cons_zero, List.set_cons_succ, i64_w, i32_w]
          rfl
        refine one_ (i := 11) (N := some 35) #[true, true, true, true, true, true, true, true, true, true, true, true, true, true, true, false, false, false] rfl rfl (one_of HT_.out (by kernel_rfl)) (by decide) (fun K hK => ?_)
        refine goes_ Try.func43 (by kernel_rfl) rfl #[.slice Ao44 y705.length co44] (by rfl) rfl rfl (by (try simp only [List.map_toArray, List.map_cons, List.map_nil]); first | done | rfl | (simp only [List.length_drop, List.length_take]; rfl)) ?_
        with_reducible refine (pick_Clean.calls k _ _ y705 t708 _ ?side1 ?side2 A12.out).mono ?_
        (case side1 => repeat (first | exact (Kd.N_reads' HO707.out).2.2 | (with_reducible refine Kd.C_alloc ?_ _) | (with_reducible refine Kd.C_drewN ?_ _) | (with_reducible refine Kd.C_drew ?_)))
        (case side2 => exact (Kd.N_reads' HO707.out).2.1)
        rintro e w45 ⟨rfl, hb⟩
        refine ⟨_, rfl, ?_⟩
        have n0_ := Aside0.mk (Kd.V_below (by (with_reducible repeat (first | apply Kd.V_alloc | apply Kd.V_drewN | apply Kd.V_drew)); exact HO679.out) hb)
        have n1_ := Aside0.mk (Kd.V_below (by (with_reducible repeat (first | apply Kd.V_alloc | apply Kd.V_drewN | apply Kd.V_drew)); exact HO682.out) hb)
        have n2_ := Aside0.mk (Kd.V_below (by (with_reducible repeat (first | apply Kd.V_alloc | apply Kd.V_drewN | apply Kd.V_drew)); exact HO685.out) hb)
        have n3_ := Aside0.mk (Kd.V_below (by (with_reducible repeat (first | apply Kd.V_alloc | apply Kd.V_drewN | apply Kd.V_drew)); exact HO690.out) hb)
        have n4_ := Aside0.mk (Kd.V_below (by (with_reducible repeat (first | apply Kd.V_alloc | apply Kd.V_drewN | apply Kd.V_drew)); exact HO693.out) hb)
        have n5_ := Aside0.mk (Kd.V_below (by (with_reducible repeat (first | apply Kd.V_alloc | apply Kd.V_drewN | apply Kd.V_drew)); exact HO696.out) hb)
        have n6_ := Aside0.mk (Kd.N_below (by (with_reducible repeat (first | apply Kd.N_alloc | apply Kd.N_drewN | apply Kd.N_drew)); exact HO700.out) hb)
        have n7_ := Aside0.mk (Kd.N_below (by (with_reducible repeat (first | apply Kd.N_alloc | apply Kd.N_drewN | apply Kd.N_drew)); exact HO703.out) hb)
        have n8_ := Aside0.mk (Kd.N_below (by (with_reducible repeat (first | apply Kd.N_alloc | apply Kd.N_drewN | apply Kd.N_drew)); exact HO707.out) hb)
        have n9_ := Aside0.mk (blk_below (g := gb673) (o := .cells #[.int .i64 a2_0, .bool a2_1] 30 (0, 0)) (by (with_reducible repeat (first | refine blk_drewN ?_ _ | refine blk_drew ?_ | refine blk_alloc ?_ _)); exact BK673.out) hb)
        have n10_ := Aside0.mk (blk_below (g := gb686) (o := .cells #[.bool t676, .slice Ao20 t677.length co20, .slice Ao21 t680.length co21, .slice Ao22 t683.length co22] 27 (0, 0)) (by (with_reducible repeat (first | refine blk_drewN ?_ _ | refine blk_drew ?_ | refine blk_alloc ?_ _)); exact BK686.out) hb)
        have n11_ := Aside0.mk (blk_below (g := gb697) (o := .cells #[.bool t687, .slice Ao30 t688.length co30, .slice Ao31 t691.length co31, .slice Ao32 t694.length co32] 27 (0, 0)) (by (with_reducible repeat (first | refine blk_drewN ?_ _ | refine blk_drew ?_ | refine blk_alloc ?_ _)); exact BK697.out) hb)
        have n12_ := Aside0.mk (below_step (by repeat (first | (with_reducible first | exact HB.out | apply below_alloc | apply pw_below_drewN | apply below_drew1 | refine below_set ?_ GE673.out | refine below_set ?_ GE686.out | refine below_set ?_ GE697.out) | exact HB.out)) hb)
        clear HO679
        clear HO682
        clear HO685
        clear HO690
        clear HO693
        clear HO696
        clear HO700
        clear HO703
        clear HO707
        clear BK673
        clear BK686
        clear BK697
        clear HB
        have HO679 := n0_
        have HO682 := n1_
        have HO685 := n2_
        have HO690 := n3_
        have HO693 := n4_
        have HO696 := n5_
        have HO700 := n6_
        have HO703 := n7_
        have HO707 := n8_
        have BK673 := n9_
        have BK686 := n10_
        have BK697 := n11_
        have HB := n12_
        clear n0_ n1_ n2_ n3_ n4_ n5_ n6_ n7_ n8_ n9_ n10_ n11_ n12_
        (try clear hb)
        (try clear hb2)
        (try clear hk)
        (try clear hi)
        refine hK.out _ _ ⟨(blk_cell BK686.out 0).trans rfl, (blk_cell BK686.out 1).trans rfl, (blk_cell BK686.out 2).trans rfl, (blk_cell BK686.out 3).trans rfl, (blk_cell BK697.out 0).trans rfl, (blk_cell BK697.out 1).trans rfl, (blk_cell BK697.out 2).trans rfl, (blk_cell BK697.out 3).trans rfl⟩ (fun hHeld => ?_)
        clear hK K
        refine norm_ (a' := ?_) ?_ ?_
        rotate_left
        · show Act.put _ (some 35) _ = _
          simp only [Act.put, List.setIfInBounds_toArray, List.set_cons_zero, List.set_cons_succ, i64_w, i32_w]
          rfl
        refine pure_ (i := 15) (N := some 39) (v := ?_) (a' := ?_) #[true, true, true, true, true, true, true, true, true, true, true, true, true, true, true, true, false, false] rfl rfl (any_of HT_.out (by kernel_rfl)) (fun _ _ _ h => h) (Or.inl ⟨by rfl, ?_⟩) ?_ ?_
        rotate_left
        · intro w'
          go_simp
          with_reducible rfl
        rotate_left
        · simp only [Act.put, List.setIfInBounds_toArray, List.set_cons_zero, List.set_cons_succ, i64_w, i32_w]
          rfl
        refine pure_ (i := 16) (N := some 40) (v := ?_) (a' := ?_) #[true, true, true, true, true, true, true, true, true, true, true, true, true, true, true, true, true, false] rfl rfl (any_of HT_.out (by kernel_rfl)) (fun _ _ _ h => h) (Or.inl ⟨by rfl, ?_⟩) ?_ ?_
        rotate_left
        · intro w'
          go_simp
          with_reducible rfl
        rotate_left
        · simp only [Act.put, List.setIfInBounds_toArray, List.set_cons_zero, List.set_cons_succ, i64_w, i32_w]
          rfl
        refine pure_ (i := 17) (N := some 6) (v := ?_) (a' := ?_) #[true, true, true, true, true, true, true, true, true, true, true, true, true, true, true, true, true, true] rfl rfl (any_of HT_.out (by kernel_rfl)) (fun _ _ _ h => h) (Or.inl ⟨by rfl, ?_⟩) ?_ ?_
        rotate_left
        · intro w'
          go_simp
          with_reducible rfl
        rotate_left
        · simp only [Act.put, List.setIfInBounds_toArray, List.set_cons_zero, List.set_cons_succ, i64_w, i32_w]
          rfl
        refine done_ (done_of HT_.out (by kernel_rfl)) ?_
        try go_wp2
        go_ret
        exact ⟨by first | rfl | (simp [errW_none, errW_some] <;> rfl) | (simp [*, errW_none, errW_some] <;> rfl), by repeat (first | (with_reducible first | exact HB.out | apply below_alloc | apply pw_below_drewN | apply below_drew1 | refine below_set ?_ GE673.out | refine below_set ?_ GE686.out | refine below_set ?_ GE697.out) | exact HB.out)⟩
      · replace c11 := Bool.eq_false_iff.mpr c11
        subst c11
        have H1 : (none) = some r := by rw [if_neg (show ¬ (false = true) by decide)] at H; exact H
        clear H
        have H := H1
        clear H1
        exact absurd H (by simp)
    · replace c9 := Bool.eq_false_iff.mpr c9
      subst c9
      have H1 : (none) = some r := by rw [if_neg (show ¬ (false = true) by decide)] at H; exact H
      clear H
      have H := H1
      clear H1
      exact absurd H (by simp)
  · replace c6 := Bool.eq_false_iff.mpr c6
    subst c6
    have H1 : (some t674) = some r := by rw [if_neg (show ¬ (false = true) by decide)] at H; exact H
    clear H
    have H := H1
    clear H1
    obtain rfl := Option.some.inj H
    go_enter Try.func15, Try.ntmps15
    go_wp2_with (first | ((with_reducible refine gate_dst (N := 5) rfl ?_); (try (refine gate_guard (by rfl) ?_; dsimp only)); refine box_event ?hg (N := 5) ?hd (cs := #[.int .i64 a2_0, .bool a2_1]) (t := 30) ?hr ?_; (case hd => rfl); (case hg => rfl); (case hr => first | (go_simp; done) | (go_simp; rfl)); intro gb673 hg w97 hbox hb; have n0_ := Aside0.mk (below_step (by repeat (first | (with_reducible first | exact HB.out | apply below_alloc | apply pw_below_drewN | apply below_drew1) | exact HB.out)) hb); have n1_ := Aside0.mk (hbox); have n2_ := Aside0.mk ((by rw [hg]; exact (below_size (by repeat (first | (with_reducible first | exact HB.out | apply below_alloc | apply pw_below_drewN | apply below_drew1) | exact HB.out))) : w.heap.size ≤ gb673)); have n3_ := Aside0.mk ((by rw [hg]; exact (below_size (by repeat (first | (with_reducible first | exact HB.out | apply below_alloc | apply pw_below_drewN | apply below_drew1) | exact HB.out))) : w.heap.size ≤ gb673)); clear HB; have HB := n0_; have BK673 := n1_; have GW673 := n2_; have GE673 := n3_; clear n0_ n1_ n2_ n3_; clear hb hbox hg) | ((with_reducible refine gate_callee (f := 19) rfl ?_); refine goesL_ (some 10) rfl rfl Try.func19 (by kernel_rfl) rfl #[] rfl (by (try simp only [List.map_toArray, List.map_cons, List.map_nil]); first | done | rfl | (simp only [List.length_drop, List.length_take]; rfl)) ?_; (with_reducible refine (sennitlaw07_awake.calls k  t674 _ A4.out).mono ?_); rintro e w98 ⟨rfl, hb⟩; refine ⟨_, rfl, ?_⟩; have n0_ := Aside0.mk (blk_below (g := gb673) (o := .cells #[.int .i64 a2_0, .bool a2_1] 30 (0, 0)) (by (with_reducible repeat (first | refine blk_drewN ?_ _ | refine blk_drew ?_ | refine blk_alloc ?_ _)); exact BK673.out) hb); have n1_ := Aside0.mk (below_step (by repeat (first | (with_reducible first | exact HB.out | apply below_alloc | apply pw_below_drewN | apply below_drew1 | refine below_set ?_ GE673.out) | exact HB.out)) hb); clear BK673; clear HB; have BK673 := n0_; have HB := n1_; clear n0_ n1_; (try clear hb); (try clear hb2); (try clear hk); (try clear hi)) | ((with_reducible refine gate_callee (f := 20) rfl ?_); refine goesL_ (some 13) rfl rfl Try.func20 (by kernel_rfl) rfl #[.slice A0 l0.length c0, .slice A1 l1.length c1] rfl (by (try simp only [List.map_toArray, List.map_cons, List.map_nil]); first | done | rfl | (simp only [List.length_drop, List.length_take]; rfl)) ?_; (with_reducible refine (sennitref06_Few.calls k _ _ l0 _ _ l1 false _ ?side1 ?side2 ?side3 ?side4 A5.out).mono ?_); (case side1 => repeat (first | exact (Kd.C_below HR0.out HB.out) | (with_reducible refine Kd.C_alloc ?_ _) | (with_reducible refine Kd.C_drewN ?_ _) | (with_reducible refine Kd.C_drew ?_))); (case side2 => exact HC0.out); (case side3 => repeat (first | exact (Kd.C_below HR1.out HB.out) | (with_reducible refine Kd.C_alloc ?_ _) | (with_reducible refine Kd.C_drewN ?_ _) | (with_reducible refine Kd.C_drew ?_))); (case side4 => exact HC1.out); rintro e w' ⟨rfl, ⟨nd, rfl⟩⟩; refine ⟨_, rfl, ?_⟩))
    go_ret
    exact ⟨by first | rfl | (simp [errW_none, errW_some] <;> rfl) | (simp [*, errW_none, errW_some] <;> rfl), by repeat (first | (with_reducible first | exact HB.out | apply below_alloc | apply pw_below_drewN | apply below_drew1 | refine below_set ?_ GE673.out) | exact HB.out)⟩

end Go.Proofs.Ytiaoppikdgoieaa.M
namespace Go.Proofs.Ytiaoppikdgoieaa.Pure
open Go.RowKit Go.Proofs.Ytiaoppikdgoieaa.M Go.Proofs.Ytiaoppikdgoieaa.Hand Go.Proofs.YtiaoppikdgoieaaW.PrintWords Go.Proofs.YtiaoppikdgoieaaW.PrintLast Go.Proofs.YtiaoppikdgoieaaW.PrintMore
set_option linter.unusedVariables false
set_option linter.unusedSimpArgs false

theorem rdT27 (xs : List S27) (i : Nat) (h : i < xs.length) : rd_T27 xs (i : Int) = xs[i] := by
  simp [rd_T27, List.getD_eq_getElem?_getD, h]
theorem sameG_self (a : List S27) : sameG a a = true := (sameP_all a a).2 rfl
theorem sameG_iff (a b : List S27) : sameG a b = true ↔ a = b := sameP_all a b
theorem small_okS {l : List S27} (h1 : l.length ≤ 100000) (h2 : ∀ p ∈ l, p.f3.length ≤ 800 ∧ ∀ x ∈ p.f3, x.length ≤ 800) : okS l :=
  ⟨by omega, fun p hp => ⟨by have := (h2 p hp).1; omega, fun x hx => by have := (h2 p hp).2 x hx; omega⟩⟩
theorem rSame_f (l0 l1 : List S27) (k : Nat) (h1 : l0.length ≤ 100000) (h2 : ∀ p ∈ l0, p.f3.length ≤ 800 ∧ ∀ x ∈ p.f3, x.length ≤ 800) : sennitref07_Same.f k l0 l1 = some (sameG l0 l1) := by
  unfold sennitref07_Same.f; rw [if_pos (small_okS h1 h2)]
theorem pSame_f (l0 l1 : List S27) (k : Nat) (h1 : l0.length ≤ 100000) : pick_Same.f k l0 l1 = some (sameG l0 l1) := by
  unfold pick_Same.f; rw [if_pos (by omega)]
end Go.Proofs.Ytiaoppikdgoieaa.Pure
namespace Go.Proofs.Ytiaoppikdgoieaa.Pure
open Go.RowKit Go.Proofs.Ytiaoppikdgoieaa.M Go.Proofs.Ytiaoppikdgoieaa.Hand Go.Proofs.YtiaoppikdgoieaaW.PrintWords Go.Proofs.YtiaoppikdgoieaaW.PrintLast Go.Proofs.YtiaoppikdgoieaaW.PrintMore
set_option linter.unusedVariables false
set_option linter.unusedSimpArgs false
theorem awake07 (k : Nat) (hk : 1 ≤ k) : sennitlaw07_awake.f k = some true := by
  obtain ⟨k, rfl⟩ : ∃ q, k = q + 1 := ⟨k - 1, by omega⟩
  unfold sennitlaw07_awake.f
  have e1 : othersG [(⟨#[97]⟩ : ByteArray)] [[(⟨#[98]⟩ : ByteArray)], [(⟨#[99]⟩ : ByteArray)]] [] = [[(⟨#[98]⟩ : ByteArray)], [(⟨#[99]⟩ : ByteArray)]] := by decide
  have hp : pick_Piece.f (k + 1) [(⟨#[97]⟩ : ByteArray)] [[(⟨#[98]⟩ : ByteArray)], [(⟨#[99]⟩ : ByteArray)]] 0 false = some (true, [], [(⟨#[97]⟩ : ByteArray)], [[(⟨#[98]⟩ : ByteArray)], [(⟨#[99]⟩ : ByteArray)]]) := by
    unfold pick_Piece.f
    rw [Differing_f _ _ (by decide), Option.bind_some, e1]
    simp [pick_Piece.j0]
  have hn : pick_Normal.f (k + 1) [(⟨false, [(⟨#[120]⟩ : ByteArray)], [], []⟩ : S27), ⟨false, [], [], []⟩, ⟨false, [(⟨#[121]⟩ : ByteArray)], [], []⟩, ⟨true, [], [(⟨#[97]⟩ : ByteArray)], [[(⟨#[98]⟩ : ByteArray)], [(⟨#[99]⟩ : ByteArray)]]⟩] =
      some [(⟨false, [(⟨#[120]⟩ : ByteArray), ⟨#[121]⟩], [], []⟩ : S27), ⟨true, [], [(⟨#[97]⟩ : ByteArray)], [[(⟨#[98]⟩ : ByteArray)], [(⟨#[99]⟩ : ByteArray)]]⟩] := by
    unfold pick_Normal.f
    rw [if_pos ⟨by decide, by decide⟩]
    simp [normG, putG, rd_T27]
  have hc : pick_Choose.f (k + 1) [(⟨false, [(⟨#[120]⟩ : ByteArray), ⟨#[121]⟩], [], []⟩ : S27), ⟨true, [], [(⟨#[97]⟩ : ByteArray)], [[(⟨#[98]⟩ : ByteArray)], [(⟨#[99]⟩ : ByteArray)]]⟩] 2 = some [(⟨#[120]⟩ : ByteArray), ⟨#[121]⟩, ⟨#[99]⟩] := by
    unfold pick_Choose.f
    have : chooseG 2 [(⟨false, [(⟨#[120]⟩ : ByteArray), ⟨#[121]⟩], [], []⟩ : S27), ⟨true, [], [(⟨#[97]⟩ : ByteArray)], [[(⟨#[98]⟩ : ByteArray)], [(⟨#[99]⟩ : ByteArray)]]⟩] = [(⟨#[120]⟩ : ByteArray), ⟨#[121]⟩, ⟨#[99]⟩] := by
      simp [chooseG, chooseP, rd_L1]
    rw [this, if_pos (by decide)]
  rw [hp, Option.bind_some, hn, Option.bind_some, hc, Option.bind_some]
  simp [pick_Clean.f, pick_Same.f, sameG_self, rd_T27, rdOf, ByteArray.toList_eq]
end Go.Proofs.Ytiaoppikdgoieaa.Pure
namespace Go.Proofs.Ytiaoppikdgoieaa.Pure
open Go.RowKit Go.Proofs.Ytiaoppikdgoieaa.M Go.Proofs.Ytiaoppikdgoieaa.Hand Go.Proofs.YtiaoppikdgoieaaW.PrintWords Go.Proofs.YtiaoppikdgoieaaW.PrintLast Go.Proofs.YtiaoppikdgoieaaW.PrintMore
set_option linter.unusedVariables false
set_option linter.unusedSimpArgs false

/-- Is the last text not ended, as the reference asks it. -/
theorem rOpen_f (l : List ByteArray) (hl : l.length ≤ 1000000) (hs : ∀ s ∈ l, s.size ≤ 1000000) : sennitref01_Open.f l = some (openL l) := by
  unfold sennitref01_Open.f openL
  cases h : l.getLast? with
  | none =>
    have : l = [] := List.getLast?_eq_none_iff.1 h
    subst this
    rw [if_pos (by simp)]
  | some s =>
    obtain ⟨hp, hr, hm⟩ := rdS_last h
    have hw : wrap64 ((l.length : Int) - 1) = ((l.length - 1 : Nat) : Int) := by unfold wrap64; omega
    have hz := hs s hm
    rw [if_neg (by omega), hw, if_pos (by omega), if_pos (by omega), hr]
    have hlen : s.data.toList.length = s.size := rfl
    by_cases h0 : s.size = 0
    · rw [if_pos (by omega)]
      have : s.data.toList = [] := List.eq_nil_of_length_eq_zero (by omega)
      simp [feedB, this]
    · have hw2 : wrap64 ((s.size : Int) - 1) = ((s.size - 1 : Nat) : Int) := by unfold wrap64; omega
      rw [if_neg (by omega), hw2, if_pos (by omega), if_pos (by omega)]
      congr 1
      have hne : s.data.toList ≠ [] := by intro e; rw [e] at hlen; simp at hlen; omega
      have hb : bt s ((s.size - 1 : Nat) : Int) = ((s.data.toList.getLast hne).toNat : Int) := by
        have h1 : s.size - 1 < s.data.toList.length := by omega
        have e1 : s.data.toList.getLast hne = s.data.toList[s.size - 1]'h1 := by
          rw [List.getLast_eq_getElem]; rfl
        rw [e1]
        unfold bt
        have : ((s.size - 1 : Nat) : Int).toNat = s.size - 1 := by omega
        simp only [this]
        rw [dif_pos (by omega)]
        rfl
      rw [hb]
      simp only [feedB, List.getLast?_eq_some_getLast hne]
      rw [Bool.eq_iff_iff]
      simp only [bne_iff_ne, ne_eq, Bool.not_eq_true', beq_eq_false_iff_ne, Option.some.injEq]
      constructor
      · intro h e; exact h (by rw [e]; rfl)
      · intro h e; exact h (by
          apply UInt8.toNat_inj.1
          have : ((10 : UInt8).toNat : Int) = 10 := rfl
          omega)

/-! The reference's union is the code's. -/
def anyN (l : List (List ByteArray)) : Bool := l.any fun x => decide (x ≠ [])
def fixL (b : Bool) (x : List ByteArray) : List ByteArray := if b = true ∧ openL x = true then endL x else x
def refU : List (List ByteArray) → List ByteArray
  | [] => []
  | x :: t => fixL (anyN t) x ++ refU t
theorem openL_app (o x : List ByteArray) (h : x ≠ []) : openL (o ++ x) = openL x := by
  unfold openL
  rw [List.getLast?_append, List.getLast?_eq_some_getLast h]
  rfl
theorem openL_nil : openL [] = false := rfl
theorem endL_app (o x : List ByteArray) (h : x ≠ []) : endL (o ++ x) = o ++ endL x := by
  have hp : 0 < x.length := List.length_pos_iff.2 h
  unfold endL
  have e1 : rdOf ByteArray.empty (o ++ x) (((o ++ x).length - 1 : Nat) : Int) = rdOf ByteArray.empty x ((x.length - 1 : Nat) : Int) := by
    rw [rdOf_get _ _ _ (by simp; omega), rdOf_get _ _ _ (by omega), List.getElem_append_right (by simp; omega)]
    congr 1
    simp; omega
  rw [e1, List.set_append_right _ _ (by simp; omega)]
  congr 2
  simp; omega
theorem anyN_cons (x : List ByteArray) (t : List (List ByteArray)) : anyN (x :: t) = (decide (x ≠ []) || anyN t) := by simp [anyN]
theorem foldU : ∀ (l : List (List ByteArray)) (o : List ByteArray), l.foldl unionS o = fixL (anyN l) o ++ refU l
  | [], o => by simp [fixL, anyN, refU]
  | x :: t, o => by
    rw [List.foldl_cons, foldU t, refU, ← List.append_assoc, anyN_cons]
    congr 1
    by_cases hx : x = []
    · subst hx
      simp [unionS, fixL, openL_nil]
    · have e : unionS o x = fixL true o ++ x := by
        unfold unionS fixL
        by_cases ho : openL o = true
        · rw [if_pos ⟨hx, ho⟩, if_pos ⟨rfl, ho⟩]
        · rw [if_neg (fun h => ho h.2), if_neg (fun h => ho h.2)]
      rw [e, decide_eq_true hx, Bool.true_or]
      unfold fixL
      rw [openL_app _ _ hx]
      by_cases hc : anyN t = true ∧ openL x = true
      · rw [if_pos hc, if_pos hc, endL_app _ _ hx]
      · rw [if_neg hc, if_neg hc]
theorem unionG_ref (l : List (List ByteArray)) : unionG l = refU l := by
  unfold unionG
  rw [foldU]
  unfold fixL
  rw [openL_nil, if_neg (by simp)]; rfl
theorem refU_app : ∀ (a : List (List ByteArray)) (i : Nat) (h : i < a.length), refU (a.drop i) = fixL (anyN (a.drop (i + 1))) a[i] ++ refU (a.drop (i + 1)) := by
  intro a i h
  rw [List.drop_eq_getElem_cons h, refU]

/-- The reference's innermost loop: a list's texts, the last one ended if need be. -/
theorem runion_l2 (l : List (List ByteArray)) (hl : l.length ≤ 100) (i : Nat) (hi : i < l.length) (x : List ByteArray) (hx : l[i] = x) (hxl : x.length ≤ 1000) (hxs : ∀ s ∈ x, s.size ≤ 1000000) (b : Bool) (acc0 r : List ByteArray) (hacc : acc0.length ≤ 1000000) (K : Nat)
    (hend : ∀ k, K ≤ k → sennitref07_union.l0 k l (acc0 ++ fixL b x) ((i + 1 : Nat) : Int) = some r) (d : Nat) :
    ∀ (j k : Nat), j ≤ x.length → x.length - j = d → K + d + 1 ≤ k → sennitref07_union.l2 k l (acc0 ++ (fixL b x).take j) (i : Int) b (j : Int) = some r := by
  have hfl : (fixL b x).length = x.length := by unfold fixL; split; exact endL_len x; rfl
  induction d with
  | zero =>
    intro j k hj hd hk
    obtain ⟨k, rfl⟩ : ∃ q, k = q + 1 := ⟨k - 1, by omega⟩
    rw [sennitref07_union.l2, if_pos (by omega), if_pos (by omega), rdL1 _ _ hi, hx, if_neg (by omega), wrap_succ hi (by omega), List.take_of_length_le (by omega)]
    exact hend k (by omega)
  | succ d ih =>
    intro j k hj hd hk
    obtain ⟨k, rfl⟩ : ∃ q, k = q + 1 := ⟨k - 1, by omega⟩
    have hlt : j < x.length := by omega
    have hnext := ih (j + 1) k (by omega) (by omega) (by omega)
    have htk : (fixL b x).take (j + 1) = (fixL b x).take j ++ [(fixL b x)[j]'(by omega)] := by rw [List.take_succ_eq_append_getElem (by omega)]
    rw [htk, ← List.append_assoc] at hnext
    have hal : (acc0 ++ (fixL b x).take j).length ≤ 1001000 := by rw [List.length_append, List.length_take]; omega
    have hw : wrap64 ((x.length : Int) - 1) = ((x.length - 1 : Nat) : Int) := by unfold wrap64; omega
    have hop := rOpen_f x (by omega) hxs
    rw [sennitref07_union.l2, if_pos (by omega), if_pos (by omega), rdL1 _ _ hi, hx, if_pos (by omega), if_pos (by omega), hw, rdOf_get _ _ _ hlt, wrap_succ hlt (by omega), hop]
    have hsz := hxs _ (List.getElem_mem hlt)
    by_cases hlast : (j : Int) = ((x.length - 1 : Nat) : Int)
    · have hjl : j = x.length - 1 := by omega
      rw [if_pos hlast]
      cases b with
      | false =>
        have e : (fixL false x)[j]'(by omega) = x[j] := by simp [fixL]
        rw [if_neg (by decide), if_pos (by omega), ← e]; exact hnext
      | true =>
        rw [if_pos rfl, Option.bind_some]
        by_cases ho : openL x = true
        · have e : (fixL true x)[j]'(by omega) = x[j] ++ (⟨#[10]⟩ : ByteArray) := by
            have e1 : fixL true x = endL x := by unfold fixL; rw [if_pos ⟨rfl, ho⟩]
            have e2 : (fixL true x)[j]? = some (x[j] ++ (⟨#[10]⟩ : ByteArray)) := by
              rw [e1]; unfold endL
              rw [← hjl, List.getElem?_set_self hlt, rdOf_get _ _ _ hlt]
            rw [List.getElem?_eq_getElem (by omega)] at e2
            exact Option.some.inj e2
          rw [ho, if_pos rfl, if_pos (by omega), if_pos (by omega), ← e]; exact hnext
        · have e : (fixL true x)[j]'(by omega) = x[j] := by
            have e1 : fixL true x = x := by unfold fixL; rw [if_neg (fun h => ho h.2)]
            simp [e1]
          rw [Bool.eq_false_iff.mpr ho, if_neg (by decide), if_pos (by omega), ← e]; exact hnext
    · have e : (fixL b x)[j]'(by omega) = x[j] := by
        have e2 : (fixL b x)[j]? = some x[j] := by
          unfold fixL
          split
          · unfold endL
            rw [List.getElem?_set_ne (by omega), List.getElem?_eq_getElem hlt]
          · rw [List.getElem?_eq_getElem hlt]
        rw [List.getElem?_eq_getElem (by omega)] at e2
        exact Option.some.inj e2
      rw [if_neg hlast, if_pos (by omega), ← e]; exact hnext
theorem runion_l1 (l : List (List ByteArray)) (hl : l.length ≤ 100) (hs : ∀ x ∈ l, x.length ≤ 1000) (i : Nat) (hi : i < l.length) (acc r : List ByteArray) (K : Nat) (d : Nat) :
    ∀ (m : Nat) (b : Bool) (k : Nat), m ≤ l.length → l.length - m = d → i < m → K + d + 1 ≤ k → (∀ k, K ≤ k → sennitref07_union.l2 k l acc (i : Int) (b || anyN (l.drop m)) 0 = some r) → sennitref07_union.l1 k l acc (i : Int) b (m : Int) = some r := by
  induction d with
  | zero =>
    intro m b k hm hd him hk h
    obtain ⟨k, rfl⟩ : ∃ q, k = q + 1 := ⟨k - 1, by omega⟩
    rw [sennitref07_union.l1, if_neg (by omega)]
    have := h k (by omega)
    rw [List.drop_of_length_le (by omega)] at this
    simpa [anyN] using this
  | succ d ih =>
    intro m b k hm hd him hk h
    obtain ⟨k, rfl⟩ : ∃ q, k = q + 1 := ⟨k - 1, by omega⟩
    have hlt : m < l.length := by omega
    rw [sennitref07_union.l1, if_pos (by omega), wrap_succ hlt (by omega)]
    have hdr := List.drop_eq_getElem_cons hlt
    cases b with
    | true =>
      rw [if_pos rfl]
      refine ih (m + 1) true k (by omega) (by omega) (by omega) (by omega) (fun q hq => ?_)
      have := h q hq
      rwa [Bool.true_or] at this ⊢
    | false =>
      rw [if_neg (by decide), if_pos (by omega), rdL1 _ _ hlt]
      refine ih (m + 1) _ k (by omega) (by omega) (by omega) (by omega) (fun q hq => ?_)
      have := h q hq
      rw [hdr, anyN_cons, Bool.false_or] at this
      have e : decide ((l[m].length : Int) > 0) = decide (l[m] ≠ []) := by
        have := List.length_pos_iff (l := l[m])
        by_cases hz : l[m] = []
        · rw [decide_eq_false (by rw [hz]; simp), decide_eq_false (by rw [hz]; simp)]
        · have := List.length_pos_iff.2 hz
          rw [decide_eq_true (by omega), decide_eq_true hz]
      rw [e]; exact this
theorem runion_l0 (l : List (List ByteArray)) (hl : l.length ≤ 100) (hs : ∀ x ∈ l, x.length ≤ 1000) (hb : ∀ x ∈ l, ∀ s ∈ x, s.size ≤ 1000000) (d : Nat) :
    ∀ (i : Nat) (acc : List ByteArray) (k : Nat), i ≤ l.length → l.length - i = d → acc.length ≤ 1000 * i → 2000 * d + 1 ≤ k → sennitref07_union.l0 k l acc (i : Int) = some (acc ++ refU (l.drop i)) := by
  induction d with
  | zero =>
    intro i acc k hi hd ha hk
    obtain ⟨k, rfl⟩ : ∃ q, k = q + 1 := ⟨k - 1, by omega⟩
    rw [sennitref07_union.l0, if_neg (by omega), List.drop_of_length_le (by omega)]; simp [refU]
  | succ d ih =>
    intro i acc k hi hd ha hk
    obtain ⟨k, rfl⟩ : ∃ q, k = q + 1 := ⟨k - 1, by omega⟩
    have hlt : i < l.length := by omega
    have hxl := hs _ (List.getElem_mem hlt)
    rw [sennitref07_union.l0, if_pos (by omega), wrap_succ hlt (by omega), refU_app l i hlt, ← List.append_assoc]
    refine runion_l1 l hl hs i hlt acc _ (2000 * d + 1 + 1000 + 2) (l.length - (i + 1)) (i + 1) false k (by omega) rfl (by omega) (by omega) (fun q hq => ?_)
    rw [Bool.false_or]
    have hfl : (fixL (anyN (l.drop (i + 1))) l[i]).length = l[i].length := by unfold fixL; split; exact endL_len _; rfl
    have := runion_l2 l hl i hlt l[i] rfl hxl (hb _ (List.getElem_mem hlt)) (anyN (l.drop (i + 1))) acc _ (by omega) (2000 * d + 1) (fun q2 hq2 => ih (i + 1) (acc ++ fixL (anyN (l.drop (i + 1))) l[i]) q2 (by omega) (by omega) (by rw [List.length_append]; omega) hq2) l[i].length 0 q (by omega) rfl (by omega)
    rwa [List.take_zero, List.append_nil] at this
theorem rUnion_f (l : List (List ByteArray)) (hl : l.length ≤ 100) (hs : ∀ x ∈ l, x.length ≤ 1000) (hb : ∀ x ∈ l, ∀ s ∈ x, s.size ≤ 1000000) (k : Nat) (hk : 2000 * l.length + 1 ≤ k) : sennitref07_union.f k l = some (unionG l) := by
  have := runion_l0 l hl hs hb l.length 0 [] k (by omega) (by omega) (by simp) hk
  rwa [List.drop_zero, List.nil_append, ← unionG_ref] at this
theorem flat_len (l : List (List ByteArray)) (M : Nat) (hs : ∀ x ∈ l, x.length ≤ M) : l.flatten.length ≤ M * l.length := by
  induction l with
  | nil => simp
  | cons x t ih =>
    have h1 := ih (fun y hy => hs y (List.mem_cons_of_mem _ hy))
    have h2 := hs x (List.mem_cons_self ..)
    rw [List.flatten_cons, List.length_append, List.length_cons, Nat.mul_add]; omega
theorem pUnion_f (l : List (List ByteArray)) (hl : l.length ≤ 100) (hs : ∀ x ∈ l, x.length ≤ 1000) (hb : ∀ x ∈ l, ∀ s ∈ x, s.size ≤ 1000000) (k : Nat) : pick_union.f k l = some (unionG l) := by
  have := flat_len l 1000 hs
  unfold pick_union.f; rw [if_pos ⟨by omega, by omega, hb⟩]

/-- What becomes of a base, and parts. -/
def pieceG (base : List ByteArray) (parts : List (List ByteArray)) (fav : Int) (un : Bool) : Bool × List ByteArray × List ByteArray × List (List ByteArray) :=
  if (othersG base parts []).length = 0 then (false, base, [], [])
  else if (othersG base parts []).length = 1 then (false, rd_L1 (othersG base parts []) 0, [], [])
  else if 1 ≤ fav ∧ fav ≤ (parts.length : Int) then (false, rd_L1 parts (fav - 1), [], [])
  else if un = true then (false, unionG (othersG base parts []), [], [])
  else (true, [], base, parts)
theorem others_small {base : List ByteArray} {parts : List (List ByteArray)} (h2 : parts.length ≤ 6) (h3 : ∀ x ∈ parts, Small x) :
    (othersG base parts []).length ≤ 6 ∧ (∀ x ∈ othersG base parts [], x.length ≤ 20) ∧ ∀ x ∈ othersG base parts [], ∀ s ∈ x, s.size ≤ 100 := by
  have hm : ∀ x ∈ othersG base parts [], Small x := fun x hx => by
    rcases othersG_mem base parts [] x hx with h | h
    · cases h
    · exact h3 x h.1
  refine ⟨by have := othersG_len base parts []; simp at this; omega, fun x hx => (hm x hx).1, fun x hx => (hm x hx).2⟩
theorem pPiece_f (base : List ByteArray) (parts : List (List ByteArray)) (fav : Int) (un : Bool) (h2 : parts.length ≤ 6) (h3 : ∀ x ∈ parts, Small x) (k : Nat) : pick_Piece.f (k + 1) base parts fav un = some (pieceG base parts fav un) := by
  obtain ⟨o1, o2, o3⟩ := others_small (base := base) h2 h3
  unfold pick_Piece.f pieceG
  rw [Differing_f _ _ (by omega), Option.bind_some]
  have hj : ∀ b : Bool, b = decide (1 ≤ fav ∧ fav ≤ (parts.length : Int)) → pick_Piece.j0 (k + 1) base parts (othersG base parts []) b fav un = some (if 1 ≤ fav ∧ fav ≤ (parts.length : Int) then (false, rd_L1 parts (fav - 1), [], []) else if un = true then (false, unionG (othersG base parts []), [], []) else (true, [], base, parts)) := by
    intro b hb
    rw [pick_Piece.j0]
    by_cases hc : 1 ≤ fav ∧ fav ≤ (parts.length : Int)
    · have hw : wrap64 (fav - 1) = fav - 1 := by unfold wrap64; omega
      rw [hb, decide_eq_true hc, if_pos rfl, hw, if_pos (by omega), if_pos (by omega), if_pos hc]
    · rw [hb, decide_eq_false hc, if_neg (by decide), if_neg hc]
      cases un with
      | true => rw [if_pos rfl, if_pos rfl, pUnion_f _ (by omega) (fun x hx => by have := o2 x hx; omega) (fun x hx s hs => by have := o3 x hx s hs; omega), Option.bind_some]
      | false => rw [if_neg (by decide), if_neg (by decide)]
  by_cases h0 : (othersG base parts []).length = 0
  · rw [if_pos (by omega), if_pos h0]
  · rw [if_neg (by omega), if_neg h0]
    by_cases h1 : (othersG base parts []).length = 1
    · rw [if_pos (by omega), if_pos h1, if_pos (by omega)]
    · rw [if_neg (by omega), if_neg h1]
      by_cases hf : fav ≥ 1
      · rw [if_pos hf]; exact hj _ (by rw [Bool.eq_iff_iff]; simp; intro _; omega)
      · rw [if_neg hf]; exact hj _ (by rw [Bool.eq_iff_iff]; simp; intro _; omega)
theorem rPiece_f (base : List ByteArray) (parts : List (List ByteArray)) (fav : Int) (un : Bool) (h2 : parts.length ≤ 6) (h3 : ∀ x ∈ parts, Small x) (k : Nat) (hk : 20000 ≤ k) : sennitref07_Piece.f k base parts fav un = some (pieceG base parts fav un) := by
  obtain ⟨o1, o2, o3⟩ := others_small (base := base) h2 h3
  obtain ⟨k, rfl⟩ : ∃ q, k = q + 1 := ⟨k - 1, by omega⟩
  unfold sennitref07_Piece.f pieceG
  rw [diff_f _ _ (fun x hx => by have := (h3 x hx).1; omega) (by omega) _ (by omega), Option.bind_some]
  have hj : ∀ b : Bool, b = decide (1 ≤ fav ∧ fav ≤ (parts.length : Int)) → sennitref07_Piece.j0 (k + 1) base parts (othersG base parts []) b fav un = some (if 1 ≤ fav ∧ fav ≤ (parts.length : Int) then (false, rd_L1 parts (fav - 1), [], []) else if un = true then (false, unionG (othersG base parts []), [], []) else (true, [], base, parts)) := by
    intro b hb
    rw [sennitref07_Piece.j0]
    by_cases hc : 1 ≤ fav ∧ fav ≤ (parts.length : Int)
    · have hw : wrap64 (fav - 1) = fav - 1 := by unfold wrap64; omega
      rw [hb, decide_eq_true hc, if_pos rfl, hw, if_pos (by omega), if_pos (by omega), if_pos hc]
    · rw [hb, decide_eq_false hc, if_neg (by decide), if_neg hc]
      cases un with
      | true => rw [if_pos rfl, if_pos rfl, rUnion_f _ (by omega) (fun x hx => by have := o2 x hx; omega) (fun x hx s hs => by have := o3 x hx s hs; omega) _ (by omega), Option.bind_some]
      | false => rw [if_neg (by decide), if_neg (by decide)]
  by_cases h0 : (othersG base parts []).length = 0
  · rw [if_pos (by omega), if_pos h0]
  · rw [if_neg (by omega), if_neg h0]
    by_cases h1 : (othersG base parts []).length = 1
    · rw [if_pos (by omega), if_pos h1, if_pos (by omega)]
    · rw [if_neg (by omega), if_neg h1]
      by_cases hf : fav > 0
      · rw [if_pos hf]; exact hj _ (by rw [Bool.eq_iff_iff]; simp; intro _; omega)
      · rw [if_neg hf]; exact hj _ (by rw [Bool.eq_iff_iff]; simp; intro _; omega)
/-- The piece as one value. -/
def pieceS (base : List ByteArray) (parts : List (List ByteArray)) (fav : Int) (un : Bool) : S27 := ⟨(pieceG base parts fav un).1, (pieceG base parts fav un).2.1, (pieceG base parts fav un).2.2.1, (pieceG base parts fav un).2.2.2⟩
theorem pieceG_f3 (base : List ByteArray) (parts : List (List ByteArray)) (fav : Int) (un : Bool) : (pieceG base parts fav un).2.2.2 = [] ∨ (pieceG base parts fav un).2.2.2 = parts := by
  unfold pieceG
  split
  · exact .inl rfl
  · split
    · exact .inl rfl
    · split
      · exact .inl rfl
      · split
        · exact .inl rfl
        · exact .inr rfl
end Go.Proofs.Ytiaoppikdgoieaa.Pure
