/- Texts of the claim PickUnion, put together (part 6): pick.Same: closures by contracts of their own. By a program of this session: a Go function as a Lean function, and that the machine's call does what it says. By a program of this session: a Go function as a Lean function, and that the machine's call does what it says. sennitref07.Same: what it tells, as a Lean function, and that the machine's call does what it says. What the functions of layer 7 tell, with rounds enough. Plain Lean. Layer 7: the awake function. Plain Lean. -/
import Derived.ArgAppend
import Derived.Below
import Derived.BigQuiet
import Derived.Deep.AppendLies
import Derived.Deep.CutBlock
import Derived.Deep.DeepCutAuto
import Derived.Deep.Draws
import Derived.Deep.LoopGhost
import Derived.Deep.OwnRows
import Derived.Deep.QuietTactic
import Derived.Deep.RegionHeld3
import Derived.KernelRfl
import Derived.Laws.BitsLemmas
import Derived.Laws.BytesArg
import Derived.Laws.EntriesVeiled
import Derived.Laws.IdiomCopy
import Derived.Laws.MakeOwn
import Derived.Laws.OwnMore
import Derived.Laws.Rows
import Derived.Laws.Slices
import Derived.Lib.AppendStr
import Derived.Lib.ConvBytes
import Derived.Maps.AppendAt
import Derived.OrdersHeld
import Derived.OwnWalk
import Derived.RangeFuncBox
import Derived.RowKit
import Derived.RowKit3
import Derived.Tactics
import Derived.Test.YtiaoppikdgoieaaProg
import Derived.Test.YtiaoppikdgoieaaWApart
import Derived.Test.YtiaoppikdgoieaaWArr
import Derived.Test.YtiaoppikdgoieaaWAt
import Derived.Test.YtiaoppikdgoieaaWEqStruct
import Derived.Test.YtiaoppikdgoieaaWFoot
import Derived.Test.YtiaoppikdgoieaaWFootNe
import Derived.Test.YtiaoppikdgoieaaWFour
import Derived.Test.YtiaoppikdgoieaaWGuard
import Derived.Test.YtiaoppikdgoieaaWInv
import Derived.Test.YtiaoppikdgoieaaWInvWords
import Derived.Test.YtiaoppikdgoieaaWKept
import Derived.Test.YtiaoppikdgoieaaWLast
import Derived.Test.YtiaoppikdgoieaaWMore
import Derived.Test.YtiaoppikdgoieaaWN
import Derived.Test.YtiaoppikdgoieaaWNEv
import Derived.Test.YtiaoppikdgoieaaWQPut
import Derived.Test.YtiaoppikdgoieaaWRepsOne
import Derived.Test.YtiaoppikdgoieaaWShare
import Derived.Test.YtiaoppikdgoieaaWTab
import Derived.Test.YtiaoppikdgoieaaWWords
import Derived.Test.YtiaoppikdgoieaaWZeros
import Derived.WalkKit
import Derived.WideLaws
import Derived.Test.YtiaoppikdgoieaaPickUnionQ5
namespace Go.Proofs.Ytiaoppikdgoieaa.M
open Go.RowKit Go.Proofs Go.Proofs.YtiaoppikdgoieaaW.PrintWords Go.Proofs.YtiaoppikdgoieaaW.PrintLast Go.Proofs.YtiaoppikdgoieaaW.PrintMore Go.Proofs.Ytiaoppikdgoieaa.Hand
attribute [local go_sem] Oper.semAt_some
set_option linter.unusedVariables false
set_option linter.unusedSimpArgs false

set_option maxHeartbeats 4000000 in
set_option maxRecDepth 100000 in
theorem equal53_c (w0 : World) (p : Addr) (A0 : Option Addr) (c0 : Nat) (l0 : List S27) (A1 : Option Addr) (c1 : Nat) (l1 : List S27) (hp : w0.cell? p = some (.func (.func 52) #[] #[])) (hpl : p.block < w0.heap.size)
    (hr0 : Kd.C k27 w0 A0 l0.length l0) (hc0 : l0.length ≤ c0) (hr1 : Kd.C k27 w0 A1 l1.length l1) (hc1 : l1.length ≤ c1) (hle : l0.length ≤ 1000000000) :
    Calls Try.prog 53 #[.slice A0 l0.length c0, .slice A1 l1.length c1, .func (.func 54) #[] #[.pointer (some p)]] w0 fun e w' => e = .returned (.bool (decide (l0.length = l1.length) && (List.zipWith sameP l0 l1).all id)) ∧ Below w0.heap.size w0 w' := by
  have HR0 := Aside0.mk hr0
  have HC0 := Aside0.mk hc0
  have HR1 := Aside0.mk hr1
  have HC1 := Aside0.mk hc1
  have HL0 := Aside0.mk hr0.2.1
  have HL1 := Aside0.mk hr1.2.1
  have HP := Aside0.mk hp
  have HPL := Aside0.mk hpl
  have HLE := Aside0.mk hle
  clear hr0 hc0 hr1 hc1 hp hpl hle
  by_cases hlen : l0.length = l1.length
  · have HN := Aside0.mk hlen
    have e1 : ((l0.length : Int) != (l1.length : Int)) = false := by rw [hlen]; simp
    have e2 : (l0.length != l1.length) = false := by rw [hlen]; simp
    clear hlen
    rw [decide_eq_true HN.out, Bool.true_and]
    go_enter Try.func53, Try.ntmps53
    go_wp2
    repeat (go_quiet (fail); try go_wp2)
    go_loopg [17] l0.length (fun kq v17 w' => ∃ i : Nat, v17 = .int .i64 (i : Int) ∧ Aside0 (i ≤ l0.length ∧ kq = l0.length - i) ∧ Aside0 ((List.zipWith sameP (l0.take i) (l1.take i)).all id = true) ∧ Aside0 (Below w0.heap.size w0 w'))
    case atStart => exact ⟨0, rfl, ⟨Nat.zero_le _, rfl⟩, ⟨by simp⟩, ⟨Below.refl _ _⟩⟩
    case round =>
      obtain ⟨i, rfl, HI, HA, HB⟩ := hrel
      have hli := HL0.out
      by_cases c4 : i < l0.length
      · have c4b0 : decide ((i : Int) < (l0.length : Int)) = true := decide_eq_true (by omega)
        have c4b1 : decide (i < l0.length) = true := decide_eq_true c4
        have c5 : i < l1.length := by have := HN.out; omega
        have c5b1 : decide (i < l1.length) = true := decide_eq_true c5
        obtain ⟨z, g0⟩ : ∃ z, l0[i]? = some z := ⟨_, List.getElem?_eq_getElem c4⟩
        obtain ⟨y, g1⟩ : ∃ y, l1[i]? = some y := ⟨_, List.getElem?_eq_getElem c5⟩
        obtain ⟨ad, a1, m1, a2, m2, a3, m3, rfl, hx0, hx1, hx2, hx3, hl1, hi1, hl2, hi2, hl3, hi3⟩ := C_piece HR0.out i z g0
        obtain ⟨ae, b1, n1, b2, n2, b3, n3, rfl, hy0, hy1, hy2, hy3, gl1, gi1, gl2, gi2, gl3, gi3⟩ := C_piece HR1.out i y g1
        have HSN : Aside0 ((List.zipWith sameP (l0.take (i + 1)) (l1.take (i + 1))).all id = sameP z y) := ⟨by
          rw [take_snoc l0 i z g0, take_snoc l1 i y g1, List.zipWith_append (by simp; omega)]
          have := HA.out
          simp [this]⟩
        have HIN : Aside0 (sameP z y = false → (List.zipWith sameP l0 l1).all id = false) := ⟨fun e => by
          cases hq : (List.zipWith sameP l0 l1).all id with
          | false => rfl
          | true =>
            have := List.all_eq_true.1 hq (sameP z y) (by
              refine List.mem_of_getElem? (i := i) ?_
              rw [List.getElem?_zipWith, g0, g1])
            rw [e] at this
            exact absurd this (by decide)⟩
        have HX0 := Aside0.mk hx0
        have HX1 := Aside0.mk hx1
        have HX2 := Aside0.mk hx2
        have HX3 := Aside0.mk hx3
        have HY0 := Aside0.mk hy0
        have HY1 := Aside0.mk hy1
        have HY2 := Aside0.mk hy2
        have HY3 := Aside0.mk hy3
        have T1 := Aside0.mk hi1
        have T2 := Aside0.mk hi2
        have T3 := Aside0.mk hi3
        have U1 := Aside0.mk gi1
        have U2 := Aside0.mk gi2
        have U3 := Aside0.mk gi3
        have k0 := (HB.out.cell (World.block_lt_of_cell? w0 _ hx0)).trans hx0
        have k1 := (HB.out.cell (World.block_lt_of_cell? w0 _ hx1)).trans hx1
        have k2 := (HB.out.cell (World.block_lt_of_cell? w0 _ hx2)).trans hx2
        have k3 := (HB.out.cell (World.block_lt_of_cell? w0 _ hx3)).trans hx3
        have hB1 : Below w0.heap.size w0 (wr.alloc (.cells #[.bool z.f0, .slice a1 z.f1.length m1, .slice a2 z.f2.length m2, .slice a3 z.f3.length m3] 27)) := below_alloc HB.out _
        have j0 := (hB1.cell (World.block_lt_of_cell? w0 _ hy0)).trans hy0
        have j1 := (hB1.cell (World.block_lt_of_cell? w0 _ hy1)).trans hy1
        have j2 := (hB1.cell (World.block_lt_of_cell? w0 _ hy2)).trans hy2
        have j3 := (hB1.cell (World.block_lt_of_cell? w0 _ hy3)).trans hy3
        have W1b := Aside0.mk hB1
        clear hi1 hi2 hi3 gi1 gi2 gi3 g0 g1 hx0 hx1 hx2 hx3 hy0 hy1 hy2 hy3 hB1
        clear hli
        cases hs : sameP z y with
        | true =>
          rw [hs] at HSN
          have HS := Aside0.mk hs
          clear hs HIN
          go_wp2_with (go_at_call 54; (with_reducible refine (same54_c _ p z.f0 y.f0 z.f1 y.f1 z.f2 y.f2 z.f3 y.f3 a1 a2 a3 b1 b2 b3 m1 m2 m3 n1 n2 n3 ?hp ?hpl ?ha1 hl1 ?ha2 hl2 ?ha3 hl3 ?he1 gl1 ?he2 gl2 ?he3 gl3).mono ?_); (case hp => exact ((below_alloc W1b.out _).cell HPL.out).trans HP.out); (case hpl => exact Nat.lt_of_lt_of_le HPL.out (below_size (below_alloc W1b.out _))); (case ha1 => exact Kd.C_below T1.out (below_alloc W1b.out _)); (case ha2 => exact Kd.C_below T2.out (below_alloc W1b.out _)); (case ha3 => exact Kd.C_below T3.out (below_alloc W1b.out _)); (case he1 => exact Kd.C_below U1.out (below_alloc W1b.out _)); (case he2 => exact Kd.C_below U2.out (below_alloc W1b.out _)); (case he3 => exact Kd.C_below U3.out (below_alloc W1b.out _)); rintro e w' ⟨he, hb⟩; replace he : e = .returned (.bool true) := he.trans (by rw [show sameP ⟨z.f0, z.f1, z.f2, z.f3⟩ ⟨y.f0, y.f1, y.f2, y.f3⟩ = true from HS.out]); subst he; have n1_ := Aside0.mk (below_step (below_alloc W1b.out _) hb); clear hb)
          go_roundg (l0.length - (i + 1))
          case measure => have := HI.out; omega
          case rel => exact ⟨i + 1, by have := HI.out; have := HLE.out; first | rfl | (simp; unfold wrap64; omega), ⟨by omega, rfl⟩, ⟨HSN.out⟩, n1_⟩
        | false =>
          have HS := Aside0.mk hs
          have HIN2 := Aside0.mk (HIN.out hs)
          clear hs HIN
          go_wp2_with (go_at_call 54; (with_reducible refine (same54_c _ p z.f0 y.f0 z.f1 y.f1 z.f2 y.f2 z.f3 y.f3 a1 a2 a3 b1 b2 b3 m1 m2 m3 n1 n2 n3 ?hp ?hpl ?ha1 hl1 ?ha2 hl2 ?ha3 hl3 ?he1 gl1 ?he2 gl2 ?he3 gl3).mono ?_); (case hp => exact ((below_alloc W1b.out _).cell HPL.out).trans HP.out); (case hpl => exact Nat.lt_of_lt_of_le HPL.out (below_size (below_alloc W1b.out _))); (case ha1 => exact Kd.C_below T1.out (below_alloc W1b.out _)); (case ha2 => exact Kd.C_below T2.out (below_alloc W1b.out _)); (case ha3 => exact Kd.C_below T3.out (below_alloc W1b.out _)); (case he1 => exact Kd.C_below U1.out (below_alloc W1b.out _)); (case he2 => exact Kd.C_below U2.out (below_alloc W1b.out _)); (case he3 => exact Kd.C_below U3.out (below_alloc W1b.out _)); rintro e w' ⟨he, hb⟩; replace he : e = .returned (.bool false) := he.trans (by rw [show sameP ⟨z.f0, z.f1, z.f2, z.f3⟩ ⟨y.f0, y.f1, y.f2, y.f3⟩ = false from HS.out]); subst he; have n1_ := Aside0.mk (below_step (below_alloc W1b.out _) hb); clear hb)
          go_ret
          exact ⟨by rw [HIN2.out]; rfl, n1_.out⟩
      · have c4b0 : decide ((i : Int) < (l0.length : Int)) = false := decide_eq_false (by omega)
        have c4b1 : decide (i < l0.length) = false := decide_eq_false c4
        have HQ : Aside0 ((List.zipWith sameP l0 l1).all id = true) := ⟨by
          have := HA.out
          rwa [List.take_of_length_le (by omega), List.take_of_length_le (by have := HN.out; omega)] at this⟩
        go_wp2
        repeat (go_quiet (fail); try go_wp2)
        go_ret
        exact ⟨by rw [HQ.out]; rfl, HB.out⟩
  · have HN := Aside0.mk hlen
    have e1 : ((l0.length : Int) != (l1.length : Int)) = true := bne_iff_ne.mpr (by omega)
    have e2 : (l0.length != l1.length) = true := bne_iff_ne.mpr hlen
    clear hlen
    rw [decide_eq_false HN.out, Bool.false_and]
    go_enter Try.func53, Try.ntmps53
    go_wp2
    repeat (go_quiet (fail); try go_wp2)
    go_ret
    exact ⟨rfl, Below.refl _ _⟩

theorem sameP_all (a b : List S27) : (decide (a.length = b.length) && (List.zipWith sameP a b).all id) = true ↔ a = b := by
  induction a generalizing b with
  | nil => cases b <;> simp
  | cons x t ih =>
    cases b with
    | nil => simp
    | cons y u =>
      have := ih u
      simp only [Bool.and_eq_true, decide_eq_true_eq] at this
      simp only [List.length_cons, List.zipWith_cons_cons, List.all_cons, id_eq, Bool.and_eq_true, decide_eq_true_eq, List.cons.injEq, sameP_iff, ← this, Nat.add_right_cancel_iff]
      constructor
      · rintro ⟨h1, h2, h3⟩; exact ⟨h2, h1, h3⟩
      · rintro ⟨h1, h2, h3⟩; exact ⟨h2, h1, h3⟩
def sameG (a b : List S27) : Bool := decide (a.length = b.length) && (List.zipWith sameP a b).all id
def pick_Same.f (k : Nat) (l0 l1 : List S27) : Option Bool := if l0.length ≤ 1000000000 then some (sameG l0 l1) else none
theorem pick_Same.mono : ∀ a0 a1 k, LeO (pick_Same.f k a0 a1) (pick_Same.f (k + 1) a0 a1) := fun _ _ _ => LeO.refl _
set_option maxHeartbeats 1000000 in
theorem pick_Same.calls (k : Nat) (A0 : Option Addr) (c0 : Nat) (l0 : List S27) (A1 : Option Addr) (c1 : Nat) (l1 : List S27) (r : Bool) (w : World) (hr0 : Kd.C k27 w A0 l0.length l0) (hc0 : l0.length ≤ c0) (hr1 : Kd.C k27 w A1 l1.length l1) (hc1 : l1.length ≤ c1) (h : pick_Same.f k l0 l1 = some r) :
    Calls Try.prog 33 #[.slice A0 l0.length c0, .slice A1 l1.length c1] w fun e w' => e = .returned (.bool r) ∧ Below w.heap.size w w' := by
  unfold pick_Same.f at h
  by_cases hb : l0.length ≤ 1000000000
  · rw [if_pos hb] at h
    obtain rfl := Option.some.inj h
    have HC := Aside0.mk (equal53_c (w.alloc (.cells #[.func (.func 52) #[] #[]] 33)) ⟨w.heap.size, 0, none⟩ A0 c0 l0 A1 c1 l1 (cell_new _ _ _) (by simp) (Kd.C_alloc hr0 _) hc0 (Kd.C_alloc hr1 _) hc1 hb)
    have HB := Aside0.mk (below_alloc (Below.refl w.heap.size w) (.cells #[.func (.func 52) #[] #[]] 33))
    clear hr0 hc0 hr1 hc1 hb h
    show Calls Try.prog 33 _ w fun e w' => e = .returned (.bool (decide (l0.length = l1.length) && (List.zipWith sameP l0 l1).all id)) ∧ Below w.heap.size w w'
    generalize (decide (l0.length = l1.length) && (List.zipWith sameP l0 l1).all id) = b at HC ⊢
    go_enter Try.func33, Try.ntmps33
    go_wp2_with (go_at_call 53; (with_reducible refine HC.out.mono ?_); rintro e w' ⟨rfl, hb⟩; have HB2 := Aside0.mk (HB.out.trans (hb.mono (by simp))); clear hb)
    go_ret
    exact ⟨rfl, HB2.out⟩
  · rw [if_neg hb] at h
    exact absurd h (by simp)
end Go.Proofs.Ytiaoppikdgoieaa.M
namespace Go.Proofs.Ytiaoppikdgoieaa.M
open Go.RowKit Go.Proofs.YtiaoppikdgoieaaW.PrintWords Go.Proofs.YtiaoppikdgoieaaW.PrintLast Go.Proofs.YtiaoppikdgoieaaW.PrintMore Go.Proofs.Ytiaoppikdgoieaa.Hand
attribute [local go_sem] max2_int min2_int max_two min_two max_three min_three max_four min_four
set_option linter.unusedVariables false
set_option linter.unusedSimpArgs false

/-! ### sennitlaw07_awake: function 19 -/
def sennitlaw07_awake.f (k : Nat)  : Option (Bool) := (pick_Piece.f k (([(⟨#[97]⟩ : ByteArray)] : List ByteArray)) (([(([(⟨#[98]⟩ : ByteArray)] : List ByteArray)), (([(⟨#[99]⟩ : ByteArray)] : List ByteArray))] : List (List ByteArray))) 0 false).bind fun bt137 => ((pick_Normal.f k (([(⟨false, (([(⟨#[120]⟩ : ByteArray)] : List ByteArray)), ([] : List ByteArray), ([] : List (List ByteArray))⟩ : S27), (⟨false, ([] : List ByteArray), ([] : List ByteArray), ([] : List (List ByteArray))⟩ : S27), (⟨false, (([(⟨#[121]⟩ : ByteArray)] : List ByteArray)), ([] : List ByteArray), ([] : List (List ByteArray))⟩ : S27), (⟨bt137.1, bt137.2.1, bt137.2.2.1, bt137.2.2.2⟩ : S27)] : List (S27)))).bind fun t157 => ((pick_Choose.f k t157 2).bind fun t160 => (if bt137.1 = true then (if (bt137.2.2.2.length : Int) = 2 then (if (t157.length : Int) = 2 then (if 0 < (t157.length : Int) then (if (((rd_T27 t157 0).f1).length : Int) = 2 then ((pick_Clean.f k t157).bind fun t164 => (if t164 = true then (none) else (if (t160.length : Int) = 3 then (if 2 < (t160.length : Int) then (if (rdOf ByteArray.empty t160 2).toList = ([99] : List UInt8) then ((pick_Same.f k t157 t157).bind fun t166 => (some t166)) else (none)) else (none)) else (none)))) else (none)) else (none)) else (none)) else (none)) else (none))))
theorem sennitlaw07_awake.mono : ∀ k, LeO (sennitlaw07_awake.f k ) (sennitlaw07_awake.f (k + 1) ) := by
  intro  k
  unfold sennitlaw07_awake.f
  repeat' first
      | (with_reducible exact pick_Choose.mono _ _ _)
      | (with_reducible exact pick_Clean.mono _ _)
      | (with_reducible exact pick_Normal.mono _ _)
      | (with_reducible exact pick_Piece.mono _ _ _ _ _)
      | (with_reducible exact pick_Same.mono _ _ _)
      | (with_reducible exact LeO.refl _)
      | (with_reducible exact LeO.none _)
      | (with_reducible refine LeO.ite ?_ ?_)
      | (with_reducible refine LeO.bind ?_ (fun _ => ?_))
      | exact pick_Choose.mono _ _ _
      | exact pick_Clean.mono _ _
      | exact pick_Normal.mono _ _
      | exact pick_Piece.mono _ _ _ _ _
      | exact pick_Same.mono _ _ _
      | exact LeO.none _
      | refine LeO.ite ?_ ?_
      | refine LeO.bind ?_ (fun _ => ?_)
set_option maxHeartbeats 8000000 in
set_option maxRecDepth 100000 in
theorem sennitlaw07_awake.calls (k : Nat)  (r : Bool) (w : World) (h : sennitlaw07_awake.f k  = some r) :
    Calls Try.prog 19 #[] w fun e w' => e = .returned (.bool r) ∧ Below w.heap.size w w' := by
  have hu30 := Try.underlying30
  have hu27 := Try.underlying27
  have HB := am (Below.refl w.heap.size w)
  have H : ((pick_Piece.f k (([(⟨#[97]⟩ : ByteArray)] : List ByteArray)) (([(([(⟨#[98]⟩ : ByteArray)] : List ByteArray)), (([(⟨#[99]⟩ : ByteArray)] : List ByteArray))] : List (List ByteArray))) 0 false).bind fun bt137 => ((pick_Normal.f k (([(⟨false, (([(⟨#[120]⟩ : ByteArray)] : List ByteArray)), ([] : List ByteArray), ([] : List (List ByteArray))⟩ : S27), (⟨false, ([] : List ByteArray), ([] : List ByteArray), ([] : List (List ByteArray))⟩ : S27), (⟨false, (([(⟨#[121]⟩ : ByteArray)] : List ByteArray)), ([] : List ByteArray), ([] : List (List ByteArray))⟩ : S27), (⟨bt137.1, bt137.2.1, bt137.2.2.1, bt137.2.2.2⟩ : S27)] : List (S27)))).bind fun t157 => ((pick_Choose.f k t157 2).bind fun t160 => (if bt137.1 = true then (if (bt137.2.2.2.length : Int) = 2 then (if (t157.length : Int) = 2 then (if 0 < (t157.length : Int) then (if (((rd_T27 t157 0).f1).length : Int) = 2 then ((pick_Clean.f k t157).bind fun t164 => (if t164 = true then (none) else (if (t160.length : Int) = 3 then (if 2 < (t160.length : Int) then (if (rdOf ByteArray.empty t160 2).toList = ([99] : List UInt8) then ((pick_Same.f k t157 t157).bind fun t166 => (some t166)) else (none)) else (none)) else (none)))) else (none)) else (none)) else (none)) else (none)) else (none))))) = some r := h
  clear h
  obtain ⟨y125, hy125⟩ : ∃ y_ : List ByteArray, y_ = (([(⟨#[97]⟩ : ByteArray)] : List ByteArray)) := ⟨_, rfl⟩
  replace H : ((pick_Piece.f k y125 (([(([(⟨#[98]⟩ : ByteArray)] : List ByteArray)), (([(⟨#[99]⟩ : ByteArray)] : List ByteArray))] : List (List ByteArray))) 0 false).bind fun bt137 => ((pick_Normal.f k (([(⟨false, (([(⟨#[120]⟩ : ByteArray)] : List ByteArray)), ([] : List ByteArray), ([] : List (List ByteArray))⟩ : S27), (⟨false, ([] : List ByteArray), ([] : List ByteArray), ([] : List (List ByteArray))⟩ : S27), (⟨false, (([(⟨#[121]⟩ : ByteArray)] : List ByteArray)), ([] : List ByteArray), ([] : List (List ByteArray))⟩ : S27), (⟨bt137.1, bt137.2.1, bt137.2.2.1, bt137.2.2.2⟩ : S27)] : List (S27)))).bind fun t157 => ((pick_Choose.f k t157 2).bind fun t160 => (if bt137.1 = true then (if (bt137.2.2.2.length : Int) = 2 then (if (t157.length : Int) = 2 then (if 0 < (t157.length : Int) then (if (((rd_T27 t157 0).f1).length : Int) = 2 then ((pick_Clean.f k t157).bind fun t164 => (if t164 = true then (none) else (if (t160.length : Int) = 3 then (if 2 < (t160.length : Int) then (if (rdOf ByteArray.empty t160 2).toList = ([99] : List UInt8) then ((pick_Same.f k t157 t157).bind fun t166 => (some t166)) else (none)) else (none)) else (none)))) else (none)) else (none)) else (none)) else (none)) else (none))))) = some r := by first | (rw [hy125]; with_reducible exact H) | (have H2_ := (Option.bind_some _ _).symm.trans H; rw [hy125]; with_reducible exact H2_) | (have H2_ := (Option.bind_some _ _).symm.trans H; with_reducible exact H2_) | with_reducible exact H | (rw [hy125]; exact H) | exact H
  have Ny125 := am hy125
  clear hy125
  obtain ⟨y128, hy128⟩ : ∃ y_ : List ByteArray, y_ = (([(⟨#[98]⟩ : ByteArray)] : List ByteArray)) := ⟨_, rfl⟩
  replace H : ((pick_Piece.f k y125 (([y128, (([(⟨#[99]⟩ : ByteArray)] : List ByteArray))] : List (List ByteArray))) 0 false).bind fun bt137 => ((pick_Normal.f k (([(⟨false, (([(⟨#[120]⟩ : ByteArray)] : List ByteArray)), ([] : List ByteArray), ([] : List (List ByteArray))⟩ : S27), (⟨false, ([] : List ByteArray), ([] : List ByteArray), ([] : List (List ByteArray))⟩ : S27), (⟨false, (([(⟨#[121]⟩ : ByteArray)] : List ByteArray)), ([] : List ByteArray), ([] : List (List ByteArray))⟩ : S27), (⟨bt137.1, bt137.2.1, bt137.2.2.1, bt137.2.2.2⟩ : S27)] : List (S27)))).bind fun t157 => ((pick_Choose.f k t157 2).bind fun t160 => (if bt137.1 = true then (if (bt137.2.2.2.length : Int) = 2 then (if (t157.length : Int) = 2 then (if 0 < (t157.length : Int) then (if (((rd_T27 t157 0).f1).length : Int) = 2 then ((pick_Clean.f k t157).bind fun t164 => (if t164 = true then (none) else (if (t160.length : Int) = 3 then (if 2 < (t160.length : Int) then (if (rdOf ByteArray.empty t160 2).toList = ([99] : List UInt8) then ((pick_Same.f k t157 t157).bind fun t166 => (some t166)) else (none)) else (none)) else (none)))) else (none)) else (none)) else (none)) else (none)) else (none))))) = some r := by first | (rw [hy128]; with_reducible exact H) | (have H2_ := (Option.bind_some _ _).symm.trans H; rw [hy128]; with_reducible exact H2_) | (have H2_ := (Option.bind_some _ _).symm.trans H; with_reducible exact H2_) | with_reducible exact H | (rw [hy128]; exact H) | exact H
  have Ny128 := am hy128
  clear hy128
  obtain ⟨y131, hy131⟩ : ∃ y_ : List ByteArray, y_ = (([(⟨#[99]⟩ : ByteArray)] : List ByteArray)) := ⟨_, rfl⟩
  replace H : ((pick_Piece.f k y125 (([y128, y131] : List (List ByteArray))) 0 false).bind fun bt137 => ((pick_Normal.f k (([(⟨false, (([(⟨#[120]⟩ : ByteArray)] : List ByteArray)), ([] : List ByteArray), ([] : List (List ByteArray))⟩ : S27), (⟨false, ([] : List ByteArray), ([] : List ByteArray), ([] : List (List ByteArray))⟩ : S27), (⟨false, (([(⟨#[121]⟩ : ByteArray)] : List ByteArray)), ([] : List ByteArray), ([] : List (List ByteArray))⟩ : S27), (⟨bt137.1, bt137.2.1, bt137.2.2.1, bt137.2.2.2⟩ : S27)] : List (S27)))).bind fun t157 => ((pick_Choose.f k t157 2).bind fun t160 => (if bt137.1 = true then (if (bt137.2.2.2.length : Int) = 2 then (if (t157.length : Int) = 2 then (if 0 < (t157.length : Int) then (if (((rd_T27 t157 0).f1).length : Int) = 2 then ((pick_Clean.f k t157).bind fun t164 => (if t164 = true then (none) else (if (t160.length : Int) = 3 then (if 2 < (t160.length : Int) then (if (rdOf ByteArray.empty t160 2).toList = ([99] : List UInt8) then ((pick_Same.f k t157 t157).bind fun t166 => (some t166)) else (none)) else (none)) else (none)))) else (none)) else (none)) else (none)) else (none)) else (none))))) = some r := by first | (rw [hy131]; with_reducible exact H) | (have H2_ := (Option.bind_some _ _).symm.trans H; rw [hy131]; with_reducible exact H2_) | (have H2_ := (Option.bind_some _ _).symm.trans H; with_reducible exact H2_) | with_reducible exact H | (rw [hy131]; exact H) | exact H
  have Ny131 := am hy131
  clear hy131
  obtain ⟨y134, hy134⟩ : ∃ y_ : List (List ByteArray), y_ = (([y128, y131] : List (List ByteArray))) := ⟨_, rfl⟩
  replace H : ((pick_Piece.f k y125 y134 0 false).bind fun bt137 => ((pick_Normal.f k (([(⟨false, (([(⟨#[120]⟩ : ByteArray)] : List ByteArray)), ([] : List ByteArray), ([] : List (List ByteArray))⟩ : S27), (⟨false, ([] : List ByteArray), ([] : List ByteArray), ([] : List (List ByteArray))⟩ : S27), (⟨false, (([(⟨#[121]⟩ : ByteArray)] : List ByteArray)), ([] : List ByteArray), ([] : List (List ByteArray))⟩ : S27), (⟨bt137.1, bt137.2.1, bt137.2.2.1, bt137.2.2.2⟩ : S27)] : List (S27)))).bind fun t157 => ((pick_Choose.f k t157 2).bind fun t160 => (if bt137.1 = true then (if (bt137.2.2.2.length : Int) = 2 then (if (t157.length : Int) = 2 then (if 0 < (t157.length : Int) then (if (((rd_T27 t157 0).f1).length : Int) = 2 then ((pick_Clean.f k t157).bind fun t164 => (if t164 = true then (none) else (if (t160.length : Int) = 3 then (if 2 < (t160.length : Int) then (if (rdOf ByteArray.empty t160 2).toList = ([99] : List UInt8) then ((pick_Same.f k t157 t157).bind fun t166 => (some t166)) else (none)) else (none)) else (none)))) else (none)) else (none)) else (none)) else (none)) else (none))))) = some r := by first | (rw [hy134]; with_reducible exact H) | (have H2_ := (Option.bind_some _ _).symm.trans H; rw [hy134]; with_reducible exact H2_) | (have H2_ := (Option.bind_some _ _).symm.trans H; with_reducible exact H2_) | with_reducible exact H | (rw [hy134]; exact H) | exact H
  have Ny134 := am hy134
  clear hy134
  replace H := Option.bind_eq_some_iff.mp H
  obtain ⟨⟨t137, t138, t141, t144⟩, A10, H⟩ := H
  replace H : ((pick_Normal.f k (([(⟨false, (([(⟨#[120]⟩ : ByteArray)] : List ByteArray)), ([] : List ByteArray), ([] : List (List ByteArray))⟩ : S27), (⟨false, ([] : List ByteArray), ([] : List ByteArray), ([] : List (List ByteArray))⟩ : S27), (⟨false, (([(⟨#[121]⟩ : ByteArray)] : List ByteArray)), ([] : List ByteArray), ([] : List (List ByteArray))⟩ : S27), (⟨t137, t138, t141, t144⟩ : S27)] : List (S27)))).bind fun t157 => ((pick_Choose.f k t157 2).bind fun t160 => (if t137 = true then (if (t144.length : Int) = 2 then (if (t157.length : Int) = 2 then (if 0 < (t157.length : Int) then (if (((rd_T27 t157 0).f1).length : Int) = 2 then ((pick_Clean.f k t157).bind fun t164 => (if t164 = true then (none) else (if (t160.length : Int) = 3 then (if 2 < (t160.length : Int) then (if (rdOf ByteArray.empty t160 2).toList = ([99] : List UInt8) then ((pick_Same.f k t157 t157).bind fun t166 => (some t166)) else (none)) else (none)) else (none)))) else (none)) else (none)) else (none)) else (none)) else (none)))) = some r := H
  have A1 := am A10
  clear A10
  obtain ⟨y148, hy148⟩ : ∃ y_ : List ByteArray, y_ = (([(⟨#[120]⟩ : ByteArray)] : List ByteArray)) := ⟨_, rfl⟩
  replace H : ((pick_Normal.f k (([(⟨false, y148, ([] : List ByteArray), ([] : List (List ByteArray))⟩ : S27), (⟨false, ([] : List ByteArray), ([] : List ByteArray), ([] : List (List ByteArray))⟩ : S27), (⟨false, (([(⟨#[121]⟩ : ByteArray)] : List ByteArray)), ([] : List ByteArray), ([] : List (List ByteArray))⟩ : S27), (⟨t137, t138, t141, t144⟩ : S27)] : List (S27)))).bind fun t157 => ((pick_Choose.f k t157 2).bind fun t160 => (if t137 = true then (if (t144.length : Int) = 2 then (if (t157.length : Int) = 2 then (if 0 < (t157.length : Int) then (if (((rd_T27 t157 0).f1).length : Int) = 2 then ((pick_Clean.f k t157).bind fun t164 => (if t164 = true then (none) else (if (t160.length : Int) = 3 then (if 2 < (t160.length : Int) then (if (rdOf ByteArray.empty t160 2).toList = ([99] : List UInt8) then ((pick_Same.f k t157 t157).bind fun t166 => (some t166)) else (none)) else (none)) else (none)))) else (none)) else (none)) else (none)) else (none)) else (none)))) = some r := by first | (rw [hy148]; with_reducible exact H) | (have H2_ := (Option.bind_some _ _).symm.trans H; rw [hy148]; with_reducible exact H2_) | (have H2_ := (Option.bind_some _ _).symm.trans H; with_reducible exact H2_) | with_reducible exact H | (rw [hy148]; exact H) | exact H
  have Ny148 := am hy148
  clear hy148
  obtain ⟨y151, hy151⟩ : ∃ y_ : List ByteArray, y_ = (([(⟨#[121]⟩ : ByteArray)] : List ByteArray)) := ⟨_, rfl⟩
  replace H : ((pick_Normal.f k (([(⟨false, y148, ([] : List ByteArray), ([] : List (List ByteArray))⟩ : S27), (⟨false, ([] : List ByteArray), ([] : List ByteArray), ([] : List (List ByteArray))⟩ : S27), (⟨false, y151, ([] : List ByteArray), ([] : List (List ByteArray))⟩ : S27), (⟨t137, t138, t141, t144⟩ : S27)] : List (S27)))).bind fun t157 => ((pick_Choose.f k t157 2).bind fun t160 => (if t137 = true then (if (t144.length : Int) = 2 then (if (t157.length : Int) = 2 then (if 0 < (t157.length : Int) then (if (((rd_T27 t157 0).f1).length : Int) = 2 then ((pick_Clean.f k t157).bind fun t164 => (if t164 = true then (none) else (if (t160.length : Int) = 3 then (if 2 < (t160.length : Int) then (if (rdOf ByteArray.empty t160 2).toList = ([99] : List UInt8) then ((pick_Same.f k t157 t157).bind fun t166 => (some t166)) else (none)) else (none)) else (none)))) else (none)) else (none)) else (none)) else (none)) else (none)))) = some r := by first | (rw [hy151]; with_reducible exact H) | (have H2_ := (Option.bind_some _ _).symm.trans H; rw [hy151]; with_reducible exact H2_) | (have H2_ := (Option.bind_some _ _).symm.trans H; with_reducible exact H2_) | with_reducible exact H | (rw [hy151]; exact H) | exact H
  have Ny151 := am hy151
  clear hy151
  obtain ⟨y154, hy154⟩ : ∃ y_ : List (S27), y_ = (([(⟨false, y148, ([] : List ByteArray), ([] : List (List ByteArray))⟩ : S27), (⟨false, ([] : List ByteArray), ([] : List ByteArray), ([] : List (List ByteArray))⟩ : S27), (⟨false, y151, ([] : List ByteArray), ([] : List (List ByteArray))⟩ : S27), (⟨t137, t138, t141, t144⟩ : S27)] : List (S27))) := ⟨_, rfl⟩
  replace H : ((pick_Normal.f k y154).bind fun t157 => ((pick_Choose.f k t157 2).bind fun t160 => (if t137 = true then (if (t144.length : Int) = 2 then (if (t157.length : Int) = 2 then (if 0 < (t157.length : Int) then (if (((rd_T27 t157 0).f1).length : Int) = 2 then ((pick_Clean.f k t157).bind fun t164 => (if t164 = true then (none) else (if (t160.length : Int) = 3 then (if 2 < (t160.length : Int) then (if (rdOf ByteArray.empty t160 2).toList = ([99] : List UInt8) then ((pick_Same.f k t157 t157).bind fun t166 => (some t166)) else (none)) else (none)) else (none)))) else (none)) else (none)) else (none)) else (none)) else (none)))) = some r := by first | (rw [hy154]; with_reducible exact H) | (have H2_ := (Option.bind_some _ _).symm.trans H; rw [hy154]; with_reducible exact H2_) | (have H2_ := (Option.bind_some _ _).symm.trans H; with_reducible exact H2_) | with_reducible exact H | (rw [hy154]; exact H) | exact H
  have Ny154 := am hy154
  clear hy154
  replace H := Option.bind_eq_some_iff.mp H
  obtain ⟨t157, A20, H⟩ := H
  replace H : ((pick_Choose.f k t157 2).bind fun t160 => (if t137 = true then (if (t144.length : Int) = 2 then (if (t157.length : Int) = 2 then (if 0 < (t157.length : Int) then (if (((rd_T27 t157 0).f1).length : Int) = 2 then ((pick_Clean.f k t157).bind fun t164 => (if t164 = true then (none) else (if (t160.length : Int) = 3 then (if 2 < (t160.length : Int) then (if (rdOf ByteArray.empty t160 2).toList = ([99] : List UInt8) then ((pick_Same.f k t157 t157).bind fun t166 => (some t166)) else (none)) else (none)) else (none)))) else (none)) else (none)) else (none)) else (none)) else (none))) = some r := H
  have A2 := am A20
  clear A20
  replace H := Option.bind_eq_some_iff.mp H
  obtain ⟨t160, A30, H⟩ := H
  replace H : (if t137 = true then (if (t144.length : Int) = 2 then (if (t157.length : Int) = 2 then (if 0 < (t157.length : Int) then (if (((rd_T27 t157 0).f1).length : Int) = 2 then ((pick_Clean.f k t157).bind fun t164 => (if t164 = true then (none) else (if (t160.length : Int) = 3 then (if 2 < (t160.length : Int) then (if (rdOf ByteArray.empty t160 2).toList = ([99] : List UInt8) then ((pick_Same.f k t157 t157).bind fun t166 => (some t166)) else (none)) else (none)) else (none)))) else (none)) else (none)) else (none)) else (none)) else (none)) = some r := H
  have A3 := am A30
  clear A30
  by_cases c4 : t137 = true
  · subst c4
    have H1 : (if (t144.length : Int) = 2 then (if (t157.length : Int) = 2 then (if 0 < (t157.length : Int) then (if (((rd_T27 t157 0).f1).length : Int) = 2 then ((pick_Clean.f k t157).bind fun t164 => (if t164 = true then (none) else (if (t160.length : Int) = 3 then (if 2 < (t160.length : Int) then (if (rdOf ByteArray.empty t160 2).toList = ([99] : List UInt8) then ((pick_Same.f k t157 t157).bind fun t166 => (some t166)) else (none)) else (none)) else (none)))) else (none)) else (none)) else (none)) else (none)) = some r := by rw [if_pos rfl] at H; exact H
    clear H
    have H := H1
    clear H1
    by_cases c5 : (t144.length : Int) = 2
    · rw [if_pos c5] at H
      have c5b0 : ((t144.length : Int) == 2) = true := beq_iff_eq.mpr c5
      have c5b1 : ((t144.length : Int) != 2) = false := bne_eq_false_iff_eq.mpr c5
      clear c5
      by_cases c6 : (t157.length : Int) = 2
      · rw [if_pos c6] at H
        have c6b0 : ((t157.length : Int) == 2) = true := beq_iff_eq.mpr c6
        have c6b1 : ((t157.length : Int) != 2) = false := bne_eq_false_iff_eq.mpr c6
        clear c6
        by_cases c7 : 0 < (t157.length : Int)
        · rw [if_pos c7] at H
          have c7b0 : decide (0 < (t157.length : Int)) = true := decide_eq_true c7
          have c7b1 : decide (0 < t157.length) = true := decide_eq_true (by omega)
          clear c7
          by_cases c8 : (((rd_T27 t157 0).f1).length : Int) = 2
          · rw [if_pos c8] at H
            have c8b0 : ((((rd_T27 t157 0).f1).length : Int) == 2) = true := beq_iff_eq.mpr c8
            have c8b1 : ((((rd_T27 t157 0).f1).length : Int) != 2) = false := bne_eq_false_iff_eq.mpr c8
            clear c8
            replace H := Option.bind_eq_some_iff.mp H
            obtain ⟨t164, A90, H⟩ := H
            replace H : (if t164 = true then (none) else (if (t160.length : Int) = 3 then (if 2 < (t160.length : Int) then (if (rdOf ByteArray.empty t160 2).toList = ([99] : List UInt8) then ((pick_Same.f k t157 t157).bind fun t166 => (some t166)) else (none)) else (none)) else (none))) = some r := H
            have A9 := am A90
            clear A90
            by_cases c10 : t164 = true
            · subst c10
              have H1 : (none) = some r := by rw [if_pos rfl] at H; exact H
              clear H
              have H := H1
              clear H1
              exact absurd H (by simp)
            · replace c10 := Bool.eq_false_iff.mpr c10
              subst c10
              have H1 : (if (t160.length : Int) = 3 then (if 2 < (t160.length : Int) then (if (rdOf ByteArray.empty t160 2).toList = ([99] : List UInt8) then ((pick_Same.f k t157 t157).bind fun t166 => (some t166)) else (none)) else (none)) else (none)) = some r := by rw [if_neg (show ¬ (false = true) by decide)] at H; exact H
              clear H
              have H := H1
              clear H1
              by_cases c44 : (t160.length : Int) = 3
              · rw [if_pos c44] at H
                have c44b0 : ((t160.length : Int) == 3) = true := beq_iff_eq.mpr c44
                have c44b1 : ((t160.length : Int) != 3) = false := bne_eq_false_iff_eq.mpr c44
                clear c44
                by_cases c45 : 2 < (t160.length : Int)
                · rw [if_pos c45] at H
                  have c45b0 : decide (2 < (t160.length : Int)) = true := decide_eq_true c45
                  have c45b1 : decide (2 < t160.length) = true := decide_eq_true (by omega)
                  clear c45
                  by_cases c46 : (rdOf ByteArray.empty t160 2).toList = ([99] : List UInt8)
                  · rw [if_pos c46] at H
                    have c46b0 : ((rdOf ByteArray.empty t160 2).toList == ([99] : List UInt8)) = true := beq_iff_eq.mpr c46
                    have c46b1 : ((rdOf ByteArray.empty t160 2).toList != ([99] : List UInt8)) = false := bne_eq_false_iff_eq.mpr c46
                    clear c46
                    replace H := Option.bind_eq_some_iff.mp H
                    obtain ⟨t166, A470, H⟩ := H
                    replace H : (some t166) = some r := H
                    have A47 := am A470
                    clear A470
                    obtain rfl := Option.some.inj H
                    go_enter Try.func19, Try.ntmps19
                    go_wp2_with (first | ((with_reducible refine gate_dst (N := 4) rfl ?_); (try (refine gate_guard (by rfl) ?_; dsimp only)); refine Kd.R_lit Kd.string _ 9 ?hg (N := 4) ?hd (xs := ([(⟨#[97]⟩ : ByteArray)] : List ByteArray)) (inner := [.string (⟨#[97]⟩ : ByteArray)]) (ok := fun _ => True) (okp := fun _ => True) ?hr ?hp (fun _ hk => hk) trivial (Below.refl _ _) (Nat.le_refl _) (by simp) ?_; (case hd => rfl); (case hg => rfl); (case hr => first | (go_simp; done) | (go_simp; rfl)); (case hp => exact (Reps.one (show Kd.M Kd.string _ _ _ (⟨#[97]⟩ : ByteArray) [.string (⟨#[97]⟩ : ByteArray)] from rfl) (Reps.none _ _))); intro v126 w48 ho49 hb hg_ hnew_; clear hg_ hnew_; rw [← Ny125.out] at ho49; have n0_ := am (Kd.R_lower ho49 (below_size (by repeat (with_reducible first | exact HB.out | apply bA | apply bN | apply bD)))); have n1_ := am (below_step (by repeat (with_reducible first | exact HB.out | apply bA | apply bN | apply bD)) hb); clear HB; have HO127 := n0_; have HB := n1_; clear n0_ n1_; clear hb ho49) | ((with_reducible refine gate_dst (N := 5) rfl ?_); (try (refine gate_guard (by rfl) ?_; dsimp only)); refine Kd.R_lit Kd.string _ 9 ?hg (N := 5) ?hd (xs := ([(⟨#[98]⟩ : ByteArray)] : List ByteArray)) (inner := [.string (⟨#[98]⟩ : ByteArray)]) (ok := fun _ => True) (okp := fun _ => True) ?hr ?hp (fun _ hk => hk) trivial (Below.refl _ _) (Nat.le_refl _) (by simp) ?_; (case hd => rfl); (case hg => rfl); (case hr => first | (go_simp; done) | (go_simp; rfl)); (case hp => exact (Reps.one (show Kd.M Kd.string _ _ _ (⟨#[98]⟩ : ByteArray) [.string (⟨#[98]⟩ : ByteArray)] from rfl) (Reps.none _ _))); intro v129 w50 ho51 hb hg_ hnew_; clear hg_ hnew_; rw [← Ny128.out] at ho51; have n0_ := am (Kd.R_elder' (by (with_reducible repeat (first | apply rA | apply rN | apply rD)); exact HO127.out) (Kd.R_base ho51) hb); have n1_ := am (Kd.R_lower (Kd.R_new' ho51 (Kd.R_lt (by (with_reducible repeat (first | apply rA | apply rN | apply rD)); exact HO127.out))) (below_size (by repeat (with_reducible first | exact HB.out | apply bA | apply bN | apply bD)))); have n2_ := am (below_step (by repeat (with_reducible first | exact HB.out | apply bA | apply bN | apply bD)) hb); clear HO127; clear HB; have HO127 := n0_; have HO130 := n1_; have HB := n2_; clear n0_ n1_ n2_; clear hb ho51) | ((with_reducible refine gate_dst (N := 6) rfl ?_); (try (refine gate_guard (by rfl) ?_; dsimp only)); refine Kd.R_lit Kd.string _ 9 ?hg (N := 6) ?hd (xs := ([(⟨#[99]⟩ : ByteArray)] : List ByteArray)) (inner := [.string (⟨#[99]⟩ : ByteArray)]) (ok := fun _ => True) (okp := fun _ => True) ?hr ?hp (fun _ hk => hk) trivial (Below.refl _ _) (Nat.le_refl _) (by simp) ?_; (case hd => rfl); (case hg => rfl); (case hr => first | (go_simp; done) | (go_simp; rfl)); (case hp => exact (Reps.one (show Kd.M Kd.string _ _ _ (⟨#[99]⟩ : ByteArray) [.string (⟨#[99]⟩ : ByteArray)] from rfl) (Reps.none _ _))); intro v132 w52 ho53 hb hg_ hnew_; clear hg_ hnew_; rw [← Ny131.out] at ho53; have n0_ := am (Kd.R_elder' (by (with_reducible repeat (first | apply rA | apply rN | apply rD)); exact HO127.out) (Kd.R_base ho53) hb); have n1_ := am (Kd.R_elder' (by (with_reducible repeat (first | apply rA | apply rN | apply rD)); exact HO130.out) (Kd.R_base ho53) hb); have n2_ := am (Kd.R_lower (Kd.R_new' (Kd.R_new' ho53 (Kd.R_lt (by (with_reducible repeat (first | apply rA | apply rN | apply rD)); exact HO127.out))) (Kd.R_lt (by (with_reducible repeat (first | apply rA | apply rN | apply rD)); exact HO130.out))) (below_size (by repeat (with_reducible first | exact HB.out | apply bA | apply bN | apply bD)))); have n3_ := am (below_step (by repeat (with_reducible first | exact HB.out | apply bA | apply bN | apply bD)) hb); clear HO127; clear HO130; clear HB; have HO127 := n0_; have HO130 := n1_; have HO133 := n2_; have HB := n3_; clear n0_ n1_ n2_ n3_; clear hb ho53; obtain ⟨Ao54, co54, eo54⟩ := Kd.R_slice HO130.out; subst eo54; obtain ⟨Ao55, co55, eo55⟩ := Kd.R_slice HO133.out; subst eo55) | ((with_reducible refine gate_dst (N := 7) rfl ?_); (try (refine gate_guard (by rfl) ?_; dsimp only)); refine Kd.N_lit (Kd.slice 9 Kd.string) _ 22 ?hg (N' := 7) ?hd (xs := ([y128, y131] : List (List ByteArray))) (inner := [.slice Ao54 y128.length co54, .slice Ao55 y131.length co55]) (ok := (fun k_ => some k_ ≠ (v126 : Value).ownBlock)) (okp := (fun k_ => some k_ ≠ (v126 : Value).ownBlock)) ?hr ?hp (fun _ hk => hk) ((show ∀ k_, w52.heap.size ≤ k_ → (fun k_ => some k_ ≠ (v126 : Value).ownBlock) k_ from fun k_ hk => Kd.fresh' (Kd.R_lt (by (with_reducible repeat (first | apply rA | apply rN | apply rD)); exact HO127.out)) k_ hk) _ (Nat.le_refl _)) (Below.refl _ _) (Nat.le_refl _) (by simp) ?_; (case hd => rfl); (case hg => rfl); (case hr => first | (go_simp; done) | (go_simp; rfl)); (case hp => exact (Reps.one (show Kd.FK (Kd.slice 9 Kd.string) _ _ y128 [.slice Ao54 y128.length co54] from (Kd.FK_slice_mk (Kd.R_reads' (Kd.R_mono (ok' := (fun k_ => some k_ ≠ (v126 : Value).ownBlock)) (HO130.out) (fun k_ hk => hk.1.2))).2.1 (Kd.R_F (Kd.R_mono (ok' := (fun k_ => some k_ ≠ (v126 : Value).ownBlock)) (HO130.out) (fun k_ hk => hk.1.2))))) (Reps.one (show Kd.FK (Kd.slice 9 Kd.string) _ _ y131 [.slice Ao55 y131.length co55] from (Kd.FK_slice_mk (Kd.R_reads' (Kd.R_mono (ok' := (fun k_ => some k_ ≠ (v126 : Value).ownBlock)) (HO133.out) (fun k_ hk => hk.1.2))).2.1 (Kd.R_F (Kd.R_mono (ok' := (fun k_ => some k_ ≠ (v126 : Value).ownBlock)) (HO133.out) (fun k_ hk => hk.1.2))))) (Reps.none _ _)))); intro v135 w56 ho57 hb hg_ hnew_; clear hg_ hnew_; rw [← Ny134.out] at ho57; have n0_ := am (Kd.R_below (by (with_reducible repeat (first | apply rA | apply rN | apply rD)); exact HO127.out) hb); have n1_ := am (Kd.N_lower ho57 (below_size (by repeat (with_reducible first | exact HB.out | apply bA | apply bN | apply bD)))); have n2_ := am (below_step (by repeat (with_reducible first | exact HB.out | apply bA | apply bN | apply bD)) hb); clear HO127; clear HB; clear HO130; clear HO133; have HO127 := n0_; have HO136 := n1_; have HB := n2_; clear n0_ n1_ n2_; clear hb ho57; obtain ⟨Ao58, co58, eo58⟩ := Kd.R_slice HO127.out; subst eo58; obtain ⟨Ao59, co59, eo59⟩ := Kd.N_slice HO136.out; subst eo59) | ((with_reducible refine gate_callee (f := 21) rfl ?_); refine goesL_ (some 9) rfl rfl Try.func21 (by kernel_rfl) rfl #[.slice Ao58 y125.length co58, .slice Ao59 y134.length co59, .agg #[.int .i64 0, .bool false]] rfl (by (try simp only [List.map_toArray, List.map_cons, List.map_nil]); first | done | rfl | (simp only [List.length_drop, List.length_take]; rfl)) ?_; (with_reducible refine (pick_Piece.calls k (fun k_ => some k_ = (.slice Ao58 y125.length co58 : Value).ownBlock) _ _ y125 (fun k_ => some k_ ≠ (.slice Ao58 y125.length co58 : Value).ownBlock) _ _ y134 0 false true t138 t141 t144 _ ?side1 ?side2 A1.out).mono ?_); (case side1 => exact Kd.R_V (Kd.R_tight rfl (Kd.R_apart' (HO127.out) (Kd.N_typed HO136.out) (by decide)))); (case side2 => exact Kd.N_V (HO136.out)); rintro e w60 ⟨v139, v142, v145, rfl, ho0, ho1, ho2, hb⟩; refine ⟨_, rfl, ?_⟩; have n0_ := am (Kd.R_below (by (with_reducible repeat (first | apply rA | apply rN | apply rD)); exact HO127.out) hb); have n1_ := am (Kd.N_below (by (with_reducible repeat (first | apply nA | apply nN | apply nD)); exact HO136.out) hb); have n2_ := am (Kd.V_lower (Kd.V_mono (ok' := fun k_ => True) ho0 (fun k_ hk_ => trivial)) (below_size (by repeat (with_reducible first | exact HB.out | apply bA | apply bN | apply bD)))); have n3_ := am (Kd.V_lower (Kd.V_mono (ok' := fun k_ => True) ho1 (fun k_ hk_ => trivial)) (below_size (by repeat (with_reducible first | exact HB.out | apply bA | apply bN | apply bD)))); have n4_ := am (Kd.V_lower (Kd.V_mono (ok' := fun k_ => True) ho2 (fun k_ hk_ => trivial)) (below_size (by repeat (with_reducible first | exact HB.out | apply bA | apply bN | apply bD)))); have n5_ := am (below_step (by repeat (with_reducible first | exact HB.out | apply bA | apply bN | apply bD)) hb); clear HO127; clear HO136; clear HB; have HO127 := n0_; have HO136 := n1_; have HO140 := n2_; have HO143 := n3_; have HO146 := n4_; have HB := n5_; clear n0_ n1_ n2_ n3_ n4_ n5_; (try clear hb); (try clear hb2); (try clear hk); (try clear hi); (try clear ho0); (try clear ho1); (try clear ho2)) | ((with_reducible refine gate_dst (N := 1) rfl ?_); (try (refine gate_guard (by rfl) ?_; dsimp only)); refine box_event ?hg (N := 1) ?hd (cs := #[.bool false, .slice none 0 0, .slice none 0 0, .slice none 0 0]) (t := 27) ?hr ?_; (case hd => rfl); (case hg => rfl); (case hr => first | (go_simp; done) | (go_simp; rfl)); intro gb147 hg w61 hbox hb; have n0_ := am (Kd.R_below (by (with_reducible repeat (first | apply rA | apply rN | apply rD)); exact HO127.out) hb); have n1_ := am (Kd.N_below (Kd.N_elderB (by (with_reducible repeat (first | apply nA | apply nN | apply nD)); exact HO136.out) gb147 (Nat.le_of_eq hg.symm)) hb); have n2_ := am (Kd.V_below (Kd.V_elderB (by (with_reducible repeat (first | apply vA | apply vN | apply vD)); exact HO140.out) gb147 (Nat.le_of_eq hg.symm)) hb); have n3_ := am (Kd.V_below (Kd.V_elderB (by (with_reducible repeat (first | apply vA | apply vN | apply vD)); exact HO143.out) gb147 (Nat.le_of_eq hg.symm)) hb); have n4_ := am (Kd.V_below (Kd.V_elderB (by (with_reducible repeat (first | apply vA | apply vN | apply vD)); exact HO146.out) gb147 (Nat.le_of_eq hg.symm)) hb); have n5_ := am (below_step (by repeat (with_reducible first | exact HB.out | apply bA | apply bN | apply bD)) hb); have n6_ := am (hbox); have n7_ := am ((by rw [hg]; exact (below_size (by repeat (with_reducible first | exact HB.out | apply bA | apply bN | apply bD))) : w.heap.size ≤ gb147)); have n8_ := am ((by rw [hg]; exact (below_size (by repeat (with_reducible first | exact HB.out | apply bA | apply bN | apply bD))) : w.heap.size ≤ gb147)); clear HO127; clear HO136; clear HO140; clear HO143; clear HO146; clear HB; have HO127 := n0_; have HO136 := n1_; have HO140 := n2_; have HO143 := n3_; have HO146 := n4_; have HB := n5_; have BK147 := n6_; have GW147 := n7_; have GE147 := n8_; clear n0_ n1_ n2_ n3_ n4_ n5_ n6_ n7_ n8_; clear hb hbox hg; have hcz62_0 : w61.cell? ⟨gb147, 0, none⟩ = some (.bool false) := (blk_cell BK147.out 0).trans rfl; have hcz62_1 : w61.cell? ⟨gb147, 1, none⟩ = some (.slice none 0 0) := (blk_cell BK147.out 1).trans rfl; have hcz62_2 : w61.cell? ⟨gb147, 2, none⟩ = some (.slice none 0 0) := (blk_cell BK147.out 2).trans rfl; have hcz62_3 : w61.cell? ⟨gb147, 3, none⟩ = some (.slice none 0 0) := (blk_cell BK147.out 3).trans rfl; have hfz62_0 := blk_frozen BK147.out 0; have hfz62_1 := blk_frozen BK147.out 1; have hfz62_2 := blk_frozen BK147.out 2; have hfz62_3 := blk_frozen BK147.out 3; obtain ⟨Ao63, co63, eo63⟩ := Kd.V_slice HO140.out; subst eo63; obtain ⟨Ao64, co64, eo64⟩ := Kd.V_slice HO143.out; subst eo64; obtain ⟨Ao65, co65, eo65⟩ := Kd.V_slice HO146.out; subst eo65) | ((with_reducible refine gate_dst (N := 10) rfl ?_); (try (refine gate_guard (by rfl) ?_; dsimp only)); refine Kd.R_lit Kd.string _ 9 ?hg (N := 10) ?hd (xs := ([(⟨#[120]⟩ : ByteArray)] : List ByteArray)) (inner := [.string (⟨#[120]⟩ : ByteArray)]) (ok := fun _ => True) (okp := fun _ => True) ?hr ?hp (fun _ hk => hk) trivial (Below.refl _ _) (Nat.le_refl _) (by simp) ?_; (case hd => rfl); (case hg => rfl); (case hr => first | (go_simp; done) | (go_simp; rfl)); (case hp => exact (Reps.one (show Kd.M Kd.string _ _ _ (⟨#[120]⟩ : ByteArray) [.string (⟨#[120]⟩ : ByteArray)] from rfl) (Reps.none _ _))); intro v149 w66 ho67 hb hg_ hnew_; clear hg_ hnew_; rw [← Ny148.out] at ho67; have n0_ := am (Kd.R_elder' (by (with_reducible repeat (first | apply rA | apply rN | apply rD)); exact (Kd.R_mono (Kd.R_far (p := ⟨gb147, 3, none⟩) (Kd.R_far (p := ⟨gb147, 2, none⟩) (Kd.R_far (p := ⟨gb147, 1, none⟩) (Kd.R_far (p := ⟨gb147, 0, none⟩) (Kd.R_types HO127.out BK147.out (by decide)) (fun _ hk => hk.2) (.bool true)) (fun _ hk => hk.2) (.slice Ao63 t138.length co63)) (fun _ hk => hk.2) (.slice Ao64 t141.length co64)) (fun _ hk => hk.2) (.slice Ao65 t144.length co65)) (fun _ h_ => h_.1))) (Kd.R_base ho67) hb); have n1_ := am (Kd.N_elder' (by (with_reducible repeat (first | apply nA | apply nN | apply nD)); exact (Kd.N_mono (Kd.N_far (p := ⟨gb147, 3, none⟩) (Kd.N_far (p := ⟨gb147, 2, none⟩) (Kd.N_far (p := ⟨gb147, 1, none⟩) (Kd.N_far (p := ⟨gb147, 0, none⟩) (Kd.N_mono HO136.out (fun k_ hk => (⟨hk, hk.2⟩ : _ ∧ k_ ≠ gb147))) (fun _ hk => hk.2) (.bool true)) (fun _ hk => hk.2) (.slice Ao63 t138.length co63)) (fun _ hk => hk.2) (.slice Ao64 t141.length co64)) (fun _ hk => hk.2) (.slice Ao65 t144.length co65)) (fun _ h_ => h_.1))) (Kd.R_base ho67) hb); have n2_ := am (Kd.V_elder' (by (with_reducible repeat (first | apply vA | apply vN | apply vD)); exact (Kd.V_mono (Kd.V_far (p := ⟨gb147, 3, none⟩) (Kd.V_far (p := ⟨gb147, 2, none⟩) (Kd.V_far (p := ⟨gb147, 1, none⟩) (Kd.V_far (p := ⟨gb147, 0, none⟩) (Kd.V_mono HO140.out (fun k_ hk => (⟨hk, hk.2⟩ : _ ∧ k_ ≠ gb147))) (fun _ hk => hk.2) (.bool true)) (fun _ hk => hk.2) (.slice Ao63 t138.length co63)) (fun _ hk => hk.2) (.slice Ao64 t141.length co64)) (fun _ hk => hk.2) (.slice Ao65 t144.length co65)) (fun _ h_ => h_.1))) (Kd.R_base ho67) hb); have n3_ := am (Kd.V_elder' (by (with_reducible repeat (first | apply vA | apply vN | apply vD)); exact (Kd.V_mono (Kd.V_far (p := ⟨gb147, 3, none⟩) (Kd.V_far (p := ⟨gb147, 2, none⟩) (Kd.V_far (p := ⟨gb147, 1, none⟩) (Kd.V_far (p := ⟨gb147, 0, none⟩) (Kd.V_mono HO143.out (fun k_ hk => (⟨hk, hk.2⟩ : _ ∧ k_ ≠ gb147))) (fun _ hk => hk.2) (.bool true)) (fun _ hk => hk.2) (.slice Ao63 t138.length co63)) (fun _ hk => hk.2) (.slice Ao64 t141.length co64)) (fun _ hk => hk.2) (.slice Ao65 t144.length co65)) (fun _ h_ => h_.1))) (Kd.R_base ho67) hb); have n4_ := am (Kd.V_elder' (by (with_reducible repeat (first | apply vA | apply vN | apply vD)); exact (Kd.V_mono (Kd.V_far (p := ⟨gb147, 3, none⟩) (Kd.V_far (p := ⟨gb147, 2, none⟩) (Kd.V_far (p := ⟨gb147, 1, none⟩) (Kd.V_far (p := ⟨gb147, 0, none⟩) (Kd.V_mono HO146.out (fun k_ hk => (⟨hk, hk.2⟩ : _ ∧ k_ ≠ gb147))) (fun _ hk => hk.2) (.bool true)) (fun _ hk => hk.2) (.slice Ao63 t138.length co63)) (fun _ hk => hk.2) (.slice Ao64 t141.length co64)) (fun _ hk => hk.2) (.slice Ao65 t144.length co65)) (fun _ h_ => h_.1))) (Kd.R_base ho67) hb); have n5_ := am (Kd.R_lower (Kd.R_new' ho67 (Kd.R_lt (by (with_reducible repeat (first | apply rA | apply rN | apply rD)); exact (Kd.R_mono (Kd.R_far (p := ⟨gb147, 3, none⟩) (Kd.R_far (p := ⟨gb147, 2, none⟩) (Kd.R_far (p := ⟨gb147, 1, none⟩) (Kd.R_far (p := ⟨gb147, 0, none⟩) (Kd.R_types HO127.out BK147.out (by decide)) (fun _ hk => hk.2) (.bool true)) (fun _ hk => hk.2) (.slice Ao63 t138.length co63)) (fun _ hk => hk.2) (.slice Ao64 t141.length co64)) (fun _ hk => hk.2) (.slice Ao65 t144.length co65)) (fun _ h_ => h_.1))))) (below_size (by repeat (first | (with_reducible first | exact HB.out | apply below_alloc | apply pw_below_drewN | apply below_drew1 | refine below_set ?_ GE147.out) | exact HB.out)))); have n6_ := am (blk_below (g := gb147) (o := .cells #[.bool true, .slice Ao63 t138.length co63, .slice Ao64 t141.length co64, .slice Ao65 t144.length co65] 27 (0, 0)) (by (with_reducible repeat (first | refine blk_drewN ?_ _ | refine blk_drew ?_ | refine blk_alloc ?_ _)); refine blk_put (cs := #[.bool true, .slice Ao63 t138.length co63, .slice Ao64 t141.length co64, .slice none 0 0]) ?_ 3 _ rfl; (with_reducible repeat (first | refine blk_drewN ?_ _ | refine blk_drew ?_ | refine blk_alloc ?_ _)); refine blk_put (cs := #[.bool true, .slice Ao63 t138.length co63, .slice none 0 0, .slice none 0 0]) ?_ 2 _ rfl; (with_reducible repeat (first | refine blk_drewN ?_ _ | refine blk_drew ?_ | refine blk_alloc ?_ _)); refine blk_put (cs := #[.bool true, .slice none 0 0, .slice none 0 0, .slice none 0 0]) ?_ 1 _ rfl; (with_reducible repeat (first | refine blk_drewN ?_ _ | refine blk_drew ?_ | refine blk_alloc ?_ _)); refine blk_put (cs := #[.bool false, .slice none 0 0, .slice none 0 0, .slice none 0 0]) ?_ 0 _ rfl; (with_reducible repeat (first | refine blk_drewN ?_ _ | refine blk_drew ?_ | refine blk_alloc ?_ _)); exact BK147.out) hb); have n7_ := am (below_step (by repeat (first | (with_reducible first | exact HB.out | apply below_alloc | apply pw_below_drewN | apply below_drew1 | refine below_set ?_ GE147.out) | exact HB.out)) hb); clear HO127; clear HO136; clear HO140; clear HO143; clear HO146; clear BK147; clear HB; have HO127 := n0_; have HO136 := n1_; have HO140 := n2_; have HO143 := n3_; have HO146 := n4_; have HO150 := n5_; have BK147 := n6_; have HB := n7_; clear n0_ n1_ n2_ n3_ n4_ n5_ n6_ n7_; clear hb ho67; obtain ⟨Ao68, co68, eo68⟩ := Kd.R_slice HO150.out; subst eo68) | ((with_reducible refine gate_dst (N := 13) rfl ?_); (try (refine gate_guard (by rfl) ?_; dsimp only)); refine Kd.R_lit Kd.string _ 9 ?hg (N := 13) ?hd (xs := ([(⟨#[121]⟩ : ByteArray)] : List ByteArray)) (inner := [.string (⟨#[121]⟩ : ByteArray)]) (ok := fun _ => True) (okp := fun _ => True) ?hr ?hp (fun _ hk => hk) trivial (Below.refl _ _) (Nat.le_refl _) (by simp) ?_; (case hd => rfl); (case hg => rfl); (case hr => first | (go_simp; done) | (go_simp; rfl)); (case hp => exact (Reps.one (show Kd.M Kd.string _ _ _ (⟨#[121]⟩ : ByteArray) [.string (⟨#[121]⟩ : ByteArray)] from rfl) (Reps.none _ _))); intro v152 w69 ho70 hb hg_ hnew_; clear hg_ hnew_; rw [← Ny151.out] at ho70; have n0_ := am (Kd.R_elder' (by (with_reducible repeat (first | apply rA | apply rN | apply rD)); exact HO127.out) (Kd.R_base ho70) hb); have n1_ := am (Kd.N_elder' (by (with_reducible repeat (first | apply nA | apply nN | apply nD)); exact HO136.out) (Kd.R_base ho70) hb); have n2_ := am (Kd.V_elder' (by (with_reducible repeat (first | apply vA | apply vN | apply vD)); exact HO140.out) (Kd.R_base ho70) hb); have n3_ := am (Kd.V_elder' (by (with_reducible repeat (first | apply vA | apply vN | apply vD)); exact HO143.out) (Kd.R_base ho70) hb); have n4_ := am (Kd.V_elder' (by (with_reducible repeat (first | apply vA | apply vN | apply vD)); exact HO146.out) (Kd.R_base ho70) hb); have n5_ := am (Kd.R_elder' (by (with_reducible repeat (first | apply rA | apply rN | apply rD)); exact HO150.out) (Kd.R_base ho70) hb); have n6_ := am (Kd.R_lower (Kd.R_new' (Kd.R_new' ho70 (Kd.R_lt (by (with_reducible repeat (first | apply rA | apply rN | apply rD)); exact HO127.out))) (Kd.R_lt (by (with_reducible repeat (first | apply rA | apply rN | apply rD)); exact HO150.out))) (below_size (by repeat (first | (with_reducible first | exact HB.out | apply below_alloc | apply pw_below_drewN | apply below_drew1 | refine below_set ?_ GE147.out) | exact HB.out)))); have n7_ := am (blk_below (g := gb147) (o := .cells #[.bool true, .slice Ao63 t138.length co63, .slice Ao64 t141.length co64, .slice Ao65 t144.length co65] 27 (0, 0)) (by (with_reducible repeat (first | refine blk_drewN ?_ _ | refine blk_drew ?_ | refine blk_alloc ?_ _)); exact BK147.out) hb); have n8_ := am (below_step (by repeat (first | (with_reducible first | exact HB.out | apply below_alloc | apply pw_below_drewN | apply below_drew1 | refine below_set ?_ GE147.out) | exact HB.out)) hb); clear HO127; clear HO136; clear HO140; clear HO143; clear HO146; clear HO150; clear BK147; clear HB; have HO127 := n0_; have HO136 := n1_; have HO140 := n2_; have HO143 := n3_; have HO146 := n4_; have HO150 := n5_; have HO153 := n6_; have BK147 := n7_; have HB := n8_; clear n0_ n1_ n2_ n3_ n4_ n5_ n6_ n7_ n8_; clear hb ho70; obtain ⟨Ao71, co71, eo71⟩ := Kd.R_slice HO153.out; subst eo71; have hcz72_0 : w69.cell? ⟨gb147, 0, none⟩ = some (.bool true) := (blk_cell BK147.out 0).trans rfl; have hcz72_1 : w69.cell? ⟨gb147, 1, none⟩ = some (.slice Ao63 t138.length co63) := (blk_cell BK147.out 1).trans rfl; have hcz72_2 : w69.cell? ⟨gb147, 2, none⟩ = some (.slice Ao64 t141.length co64) := (blk_cell BK147.out 2).trans rfl; have hcz72_3 : w69.cell? ⟨gb147, 3, none⟩ = some (.slice Ao65 t144.length co65) := (blk_cell BK147.out 3).trans rfl; have hfz72_0 := blk_frozen BK147.out 0; have hfz72_1 := blk_frozen BK147.out 1; have hfz72_2 := blk_frozen BK147.out 2; have hfz72_3 := blk_frozen BK147.out 3) | ((with_reducible refine gate_dst (N := 16) rfl ?_); (try (refine gate_guard (by rfl) ?_; dsimp only)); refine Kd.N_lit k27 _ 27 ?hg (N' := 16) ?hd (xs := ([(⟨false, y148, ([] : List ByteArray), ([] : List (List ByteArray))⟩ : S27), (⟨false, ([] : List ByteArray), ([] : List ByteArray), ([] : List (List ByteArray))⟩ : S27), (⟨false, y151, ([] : List ByteArray), ([] : List (List ByteArray))⟩ : S27), (⟨true, t138, t141, t144⟩ : S27)] : List (S27))) (inner := [.bool false, .slice Ao68 y148.length co68, .slice none 0 0, .slice none 0 0, .bool false, .slice none 0 0, .slice none 0 0, .slice none 0 0, .bool false, .slice Ao71 y151.length co71, .slice none 0 0, .slice none 0 0, .bool true, .slice Ao63 t138.length co63, .slice Ao64 t141.length co64, .slice Ao65 t144.length co65]) (ok := (fun k_ => k_ ≠ gb147)) (okp := (fun k_ => k_ ≠ gb147)) ?hr ?hp (fun _ hk => hk) ((show ∀ k_, w69.heap.size ≤ k_ → (fun k_ => k_ ≠ gb147) k_ from fun k_ hk => Kd.freshB (g := gb147) (o := .cells #[.bool true, .slice Ao63 t138.length co63, .slice Ao64 t141.length co64, .slice Ao65 t144.length co65] 27 (0, 0)) (by (with_reducible repeat (first | refine blk_drewN ?_ _ | refine blk_drew ?_ | refine blk_alloc ?_ _)); exact BK147.out) k_ hk) _ (Nat.le_refl _)) (Below.refl _ _) (Nat.le_refl _) (by simp) ?_; (case hd => rfl); (case hg => rfl); (case hr => first | (go_simp; done) | (go_simp; rfl)); (case hp => exact (Reps.c4 (show Kd.FK k27 _ _ (⟨false, y148, ([] : List ByteArray), ([] : List (List ByteArray))⟩ : S27) [.bool false, .slice Ao68 y148.length co68, .slice none 0 0, .slice none 0 0] from (k27_mkF _ _ (⟨false, y148, ([] : List ByteArray), ([] : List (List ByteArray))⟩ : S27) (Kd.R_reads' (Kd.R_mono (ok' := (fun k_ => k_ ≠ gb147)) (Kd.R_types (HO150.out) BK147.out (by decide)) (fun k_ hk => hk.2))).2.1 (Kd.R_F (Kd.R_mono (ok' := (fun k_ => k_ ≠ gb147)) (Kd.R_types (HO150.out) BK147.out (by decide)) (fun k_ hk => hk.2))) (Nat.le_refl _) (Kd.F_nil _ _ _) (Nat.le_refl _) (Kd.F_nil _ _ _))) (Reps.c4 (show Kd.FK k27 _ _ (⟨false, ([] : List ByteArray), ([] : List ByteArray), ([] : List (List ByteArray))⟩ : S27) [.bool false, .slice none 0 0, .slice none 0 0, .slice none 0 0] from (k27_mkF _ _ (⟨false, ([] : List ByteArray), ([] : List ByteArray), ([] : List (List ByteArray))⟩ : S27) (Nat.le_refl _) (Kd.F_nil _ _ _) (Nat.le_refl _) (Kd.F_nil _ _ _) (Nat.le_refl _) (Kd.F_nil _ _ _))) (Reps.c4 (show Kd.FK k27 _ _ (⟨false, y151, ([] : List ByteArray), ([] : List (List ByteArray))⟩ : S27) [.bool false, .slice Ao71 y151.length co71, .slice none 0 0, .slice none 0 0] from (k27_mkF _ _ (⟨false, y151, ([] : List ByteArray), ([] : List (List ByteArray))⟩ : S27) (Kd.R_reads' (Kd.R_mono (ok' := (fun k_ => k_ ≠ gb147)) (Kd.R_types (HO153.out) BK147.out (by decide)) (fun k_ hk => hk.2))).2.1 (Kd.R_F (Kd.R_mono (ok' := (fun k_ => k_ ≠ gb147)) (Kd.R_types (HO153.out) BK147.out (by decide)) (fun k_ hk => hk.2))) (Nat.le_refl _) (Kd.F_nil _ _ _) (Nat.le_refl _) (Kd.F_nil _ _ _))) (Reps.c4 (show Kd.FK k27 _ _ (⟨true, t138, t141, t144⟩ : S27) [.bool true, .slice Ao63 t138.length co63, .slice Ao64 t141.length co64, .slice Ao65 t144.length co65] from (k27_mkF _ _ (⟨true, t138, t141, t144⟩ : S27) (Kd.V_reads' (Kd.V_mono (ok' := (fun k_ => k_ ≠ gb147)) (HO140.out) (fun k_ hk => hk.1.1.2))).2.1 (Kd.V_F (Kd.V_mono (ok' := (fun k_ => k_ ≠ gb147)) (HO140.out) (fun k_ hk => hk.1.1.2))) (Kd.V_reads' (Kd.V_mono (ok' := (fun k_ => k_ ≠ gb147)) (HO143.out) (fun k_ hk => hk.1.1.2))).2.1 (Kd.V_F (Kd.V_mono (ok' := (fun k_ => k_ ≠ gb147)) (HO143.out) (fun k_ hk => hk.1.1.2))) (Kd.V_reads' (Kd.V_mono (ok' := (fun k_ => k_ ≠ gb147)) (HO146.out) (fun k_ hk => hk.1.1.2))).2.1 (Kd.V_F (Kd.V_mono (ok' := (fun k_ => k_ ≠ gb147)) (HO146.out) (fun k_ hk => hk.1.1.2))))) (Reps.none _ _)))))); intro v155 w73 ho74 hb hg_ hnew_; clear hg_ hnew_; rw [← Ny154.out] at ho74; have n0_ := am (Kd.R_below (by (with_reducible repeat (first | apply rA | apply rN | apply rD)); exact HO127.out) hb); have n1_ := am (Kd.N_elder' (by (with_reducible repeat (first | apply nA | apply nN | apply nD)); exact HO136.out) (Kd.N_base ho74) hb); have n2_ := am (Kd.V_elder' (by (with_reducible repeat (first | apply vA | apply vN | apply vD)); exact HO140.out) (Kd.N_base ho74) hb); have n3_ := am (Kd.V_elder' (by (with_reducible repeat (first | apply vA | apply vN | apply vD)); exact HO143.out) (Kd.N_base ho74) hb); have n4_ := am (Kd.V_elder' (by (with_reducible repeat (first | apply vA | apply vN | apply vD)); exact HO146.out) (Kd.N_base ho74) hb); have n5_ := am (Kd.N_lower ho74 (below_size (by repeat (first | (with_reducible first | exact HB.out | apply below_alloc | apply pw_below_drewN | apply below_drew1 | refine below_set ?_ GE147.out) | exact HB.out)))); have n6_ := am (blk_below (g := gb147) (o := .cells #[.bool true, .slice Ao63 t138.length co63, .slice Ao64 t141.length co64, .slice Ao65 t144.length co65] 27 (0, 0)) (by (with_reducible repeat (first | refine blk_drewN ?_ _ | refine blk_drew ?_ | refine blk_alloc ?_ _)); exact BK147.out) hb); have n7_ := am (below_step (by repeat (first | (with_reducible first | exact HB.out | apply below_alloc | apply pw_below_drewN | apply below_drew1 | refine below_set ?_ GE147.out) | exact HB.out)) hb); clear HO127; clear HO136; clear HO140; clear HO143; clear HO146; clear BK147; clear HB; clear HO150; clear HO153; have HO127 := n0_; have HO136 := n1_; have HO140 := n2_; have HO143 := n3_; have HO146 := n4_; have HO156 := n5_; have BK147 := n6_; have HB := n7_; clear n0_ n1_ n2_ n3_ n4_ n5_ n6_ n7_; clear hb ho74; obtain ⟨Ao75, co75, eo75⟩ := Kd.N_slice HO156.out; subst eo75) | ((with_reducible refine gate_callee (f := 40) rfl ?_); refine goesL_ (some 17) rfl rfl Try.func40 (by kernel_rfl) rfl #[.slice Ao75 y154.length co75] rfl (by (try simp only [List.map_toArray, List.map_cons, List.map_nil]); first | done | rfl | (simp only [List.length_drop, List.length_take]; rfl)) ?_; (with_reducible refine (pick_Normal.calls k (fun k_ => k_ ≠ gb147) _ _ y154 t157 _ ?side1 A2.out).mono ?_); (case side1 => exact Kd.N_V (HO156.out)); rintro e w76 ⟨v158, rfl, ho0, hb⟩; refine ⟨_, rfl, ?_⟩; have n0_ := am (Kd.R_below (by (with_reducible repeat (first | apply rA | apply rN | apply rD)); exact HO127.out) hb); have n1_ := am (Kd.N_elder' (by (with_reducible repeat (first | apply nA | apply nN | apply nD)); exact HO136.out) (Kd.N_base ho0) hb); have n2_ := am (Kd.V_elder' (by (with_reducible repeat (first | apply vA | apply vN | apply vD)); exact HO140.out) (Kd.N_base ho0) hb); have n3_ := am (Kd.V_elder' (by (with_reducible repeat (first | apply vA | apply vN | apply vD)); exact HO143.out) (Kd.N_base ho0) hb); have n4_ := am (Kd.V_elder' (by (with_reducible repeat (first | apply vA | apply vN | apply vD)); exact HO146.out) (Kd.N_base ho0) hb); have n5_ := am (Kd.N_elder' (by (with_reducible repeat (first | apply nA | apply nN | apply nD)); exact HO156.out) (Kd.N_base ho0) hb); have n6_ := am (Kd.N_lower (Kd.N_mono (ok' := fun k_ => k_ ≠ gb147) ho0 (fun k_ hk_ => Or.elim hk_ (fun hs_ => hs_) (fun hn_ => (Kd.freshB (g := gb147) (o := .cells #[.bool true, .slice Ao63 t138.length co63, .slice Ao64 t141.length co64, .slice Ao65 t144.length co65] 27 (0, 0)) (by (with_reducible repeat (first | refine blk_drewN ?_ _ | refine blk_drew ?_ | refine blk_alloc ?_ _)); exact BK147.out) k_ hn_)))) (below_size (by repeat (first | (with_reducible first | exact HB.out | apply below_alloc | apply pw_below_drewN | apply below_drew1 | refine below_set ?_ GE147.out) | exact HB.out)))); have n7_ := am (blk_below (g := gb147) (o := .cells #[.bool true, .slice Ao63 t138.length co63, .slice Ao64 t141.length co64, .slice Ao65 t144.length co65] 27 (0, 0)) (by (with_reducible repeat (first | refine blk_drewN ?_ _ | refine blk_drew ?_ | refine blk_alloc ?_ _)); exact BK147.out) hb); have n8_ := am (below_step (by repeat (first | (with_reducible first | exact HB.out | apply below_alloc | apply pw_below_drewN | apply below_drew1 | refine below_set ?_ GE147.out) | exact HB.out)) hb); clear HO127; clear HO136; clear HO140; clear HO143; clear HO146; clear HO156; clear BK147; clear HB; have HO127 := n0_; have HO136 := n1_; have HO140 := n2_; have HO143 := n3_; have HO146 := n4_; have HO156 := n5_; have HO159 := n6_; have BK147 := n7_; have HB := n8_; clear n0_ n1_ n2_ n3_ n4_ n5_ n6_ n7_ n8_; (try clear hb); (try clear hb2); (try clear hk); (try clear hi); (try clear ho0); obtain ⟨Ao77, co77, eo77⟩ := Kd.N_slice HO159.out; subst eo77) | ((with_reducible refine gate_callee (f := 44) rfl ?_); refine goesL_ (some 19) rfl rfl Try.func44 (by kernel_rfl) rfl #[.slice Ao77 t157.length co77, .int .i64 2] rfl (by (try simp only [List.map_toArray, List.map_cons, List.map_nil]); first | done | rfl | (simp only [List.length_drop, List.length_take]; rfl)) ?_; (with_reducible refine (pick_Choose.calls k _ _ t157 2 t160 _ ?side1 ?side2 A3.out).mono ?_); (case side1 => repeat (first | exact (Kd.N_reads' HO159.out).2.2 | (with_reducible refine Kd.C_alloc ?_ _) | (with_reducible refine Kd.C_drewN ?_ _) | (with_reducible refine Kd.C_drew ?_))); (case side2 => exact (Kd.N_reads' HO159.out).2.1); rintro e w78 ⟨v161, rfl, ho0, hb⟩; refine ⟨_, rfl, ?_⟩; have n0_ := am (Kd.R_elder' (by (with_reducible repeat (first | apply rA | apply rN | apply rD)); exact HO127.out) (Kd.R_base ho0) hb); have n1_ := am (Kd.N_elder' (by (with_reducible repeat (first | apply nA | apply nN | apply nD)); exact HO136.out) (Kd.R_base ho0) hb); have n2_ := am (Kd.V_elder' (by (with_reducible repeat (first | apply vA | apply vN | apply vD)); exact HO140.out) (Kd.R_base ho0) hb); have n3_ := am (Kd.V_elder' (by (with_reducible repeat (first | apply vA | apply vN | apply vD)); exact HO143.out) (Kd.R_base ho0) hb); have n4_ := am (Kd.V_elder' (by (with_reducible repeat (first | apply vA | apply vN | apply vD)); exact HO146.out) (Kd.R_base ho0) hb); have n5_ := am (Kd.N_elder' (by (with_reducible repeat (first | apply nA | apply nN | apply nD)); exact HO156.out) (Kd.R_base ho0) hb); have n6_ := am (Kd.N_elder' (by (with_reducible repeat (first | apply nA | apply nN | apply nD)); exact HO159.out) (Kd.R_base ho0) hb); have n7_ := am (Kd.R_lower (Kd.R_new' ho0 (Kd.R_lt (by (with_reducible repeat (first | apply rA | apply rN | apply rD)); exact HO127.out))) (below_size (by repeat (first | (with_reducible first | exact HB.out | apply below_alloc | apply pw_below_drewN | apply below_drew1 | refine below_set ?_ GE147.out) | exact HB.out)))); have n8_ := am (blk_below (g := gb147) (o := .cells #[.bool true, .slice Ao63 t138.length co63, .slice Ao64 t141.length co64, .slice Ao65 t144.length co65] 27 (0, 0)) (by (with_reducible repeat (first | refine blk_drewN ?_ _ | refine blk_drew ?_ | refine blk_alloc ?_ _)); exact BK147.out) hb); have n9_ := am (below_step (by repeat (first | (with_reducible first | exact HB.out | apply below_alloc | apply pw_below_drewN | apply below_drew1 | refine below_set ?_ GE147.out) | exact HB.out)) hb); clear HO127; clear HO136; clear HO140; clear HO143; clear HO146; clear HO156; clear HO159; clear BK147; clear HB; have HO127 := n0_; have HO136 := n1_; have HO140 := n2_; have HO143 := n3_; have HO146 := n4_; have HO156 := n5_; have HO159 := n6_; have HO162 := n7_; have BK147 := n8_; have HB := n9_; clear n0_ n1_ n2_ n3_ n4_ n5_ n6_ n7_ n8_ n9_; (try clear hb); (try clear hb2); (try clear hk); (try clear hi); (try clear ho0); have hcz79_0 : w78.cell? ⟨gb147, 0, none⟩ = some (.bool true) := (blk_cell BK147.out 0).trans rfl; have hcz79_1 : w78.cell? ⟨gb147, 1, none⟩ = some (.slice Ao63 t138.length co63) := (blk_cell BK147.out 1).trans rfl; have hcz79_2 : w78.cell? ⟨gb147, 2, none⟩ = some (.slice Ao64 t141.length co64) := (blk_cell BK147.out 2).trans rfl; have hcz79_3 : w78.cell? ⟨gb147, 3, none⟩ = some (.slice Ao65 t144.length co65) := (blk_cell BK147.out 3).trans rfl; have hfz79_0 := blk_frozen BK147.out 0; have hfz79_1 := blk_frozen BK147.out 1; have hfz79_2 := blk_frozen BK147.out 2; have hfz79_3 := blk_frozen BK147.out 3; have p163 : 0 ≤ (0 : Int) := (by omega); have q163 : 0 < (t157.length : Int) := of_decide_eq_true (by first | (with_reducible assumption) | assumption); obtain ⟨ad163, A163_1, c163_1, A163_2, c163_2, A163_3, c163_3, e163, hx163_0, hx163_1, hx163_2, hx163_3, hl163_1, hi163_1, hl163_2, hi163_2, hl163_3, hi163_3⟩ := at_T27 (Kd.N_reads' HO159.out).2.2 0 p163 q163; cases e163; obtain ⟨ce163, hce163, hMe163, hcc163⟩ := Kd.N_get HO159.out z27 0 p163 (by first | exact q163 | exact of_decide_eq_true (by first | (with_reducible assumption) | assumption) | (have e_ := (Kd.N_reads' HO159.out).1; omega)); obtain ⟨ua163_1, uc163_1, ua163_2, uc163_2, ua163_3, uc163_3, rfl, ul163_1, ge163_1, ul163_2, ge163_2, ul163_3, ge163_3⟩ := k27_openF hMe163; have hv163_1 := hcc163 1 _ rfl; rw [add_field _ _ 1 (by omega)] at hv163_1; replace hv163_1 := Option.some.inj (hv163_1.symm.trans hx163_1); injection hv163_1 with hva_ hvn_ hvc_; rw [hva_] at ge163_1; rw [hvc_] at ul163_1; have HL163_1 := am (show Kd.V Kd.string 9 _ w.heap.size _ _ ((rd_T27 t157 0).f1) from Kd.V_mk ul163_1 ge163_1); clear hva_ hvn_ hvc_ ge163_1 ul163_1; have hv163_2 := hcc163 2 _ rfl; rw [add_field _ _ 2 (by omega)] at hv163_2; replace hv163_2 := Option.some.inj (hv163_2.symm.trans hx163_2); injection hv163_2 with hva_ hvn_ hvc_; rw [hva_] at ge163_2; rw [hvc_] at ul163_2; have HL163_2 := am (show Kd.V Kd.string 9 _ w.heap.size _ _ ((rd_T27 t157 0).f2) from Kd.V_mk ul163_2 ge163_2); clear hva_ hvn_ hvc_ ge163_2 ul163_2; have hv163_3 := hcc163 3 _ rfl; rw [add_field _ _ 3 (by omega)] at hv163_3; replace hv163_3 := Option.some.inj (hv163_3.symm.trans hx163_3); injection hv163_3 with hva_ hvn_ hvc_; rw [hva_] at ge163_3; rw [hvc_] at ul163_3; have HL163_3 := am (show Kd.V (Kd.slice 9 Kd.string) 22 _ w.heap.size _ _ ((rd_T27 t157 0).f3) from Kd.V_mk ul163_3 ge163_3); clear hva_ hvn_ hvc_ ge163_3 ul163_3; clear hcc163 hce163; have qi163 : (0 < t157.length) = True := eq_true (by omega); (try rw [show ((0 : Int)).toNat = 0 from rfl] at hx163_0); (try rw [show 0 * 4 = 0 from rfl] at hx163_0); (try rw [Addr.add_zero'] at hx163_0); (try rw [show ((0 : Int)).toNat = 0 from rfl] at hx163_1); (try rw [show 0 * 4 = 0 from rfl] at hx163_1); (try rw [Addr.add_zero'] at hx163_1); (try rw [show ((0 : Int)).toNat = 0 from rfl] at hx163_2); (try rw [show 0 * 4 = 0 from rfl] at hx163_2); (try rw [Addr.add_zero'] at hx163_2); (try rw [show ((0 : Int)).toNat = 0 from rfl] at hx163_3); (try rw [show 0 * 4 = 0 from rfl] at hx163_3); (try rw [Addr.add_zero'] at hx163_3); have HR163_1 := am hi163_1; have HC163_1 := am hl163_1; clear hi163_1 hl163_1; have HR163_2 := am hi163_2; have HC163_2 := am hl163_2; clear hi163_2 hl163_2; have HR163_3 := am hi163_3; have HC163_3 := am hl163_3; clear hi163_3 hl163_3; replace p163 := eq_true p163; replace q163 := eq_true q163) | (go_at_call 43; (with_reducible refine (pick_Clean.calls k _ _ t157 false _ ?side1 ?side2 A9.out).mono ?_); (case side1 => repeat (first | exact (Kd.N_reads' HO159.out).2.2 | (with_reducible refine Kd.C_alloc ?_ _) | (with_reducible refine Kd.C_drewN ?_ _) | (with_reducible refine Kd.C_drew ?_))); (case side2 => exact (Kd.N_reads' HO159.out).2.1); rintro e w80 ⟨rfl, hb⟩; have n0_ := am (Kd.R_below (by (with_reducible repeat (first | apply rA | apply rN | apply rD)); exact HO127.out) hb); have n1_ := am (Kd.N_below (by (with_reducible repeat (first | apply nA | apply nN | apply nD)); exact HO136.out) hb); have n2_ := am (Kd.V_below (by (with_reducible repeat (first | apply vA | apply vN | apply vD)); exact HO140.out) hb); have n3_ := am (Kd.V_below (by (with_reducible repeat (first | apply vA | apply vN | apply vD)); exact HO143.out) hb); have n4_ := am (Kd.V_below (by (with_reducible repeat (first | apply vA | apply vN | apply vD)); exact HO146.out) hb); have n5_ := am (Kd.N_below (by (with_reducible repeat (first | apply nA | apply nN | apply nD)); exact HO156.out) hb); have n6_ := am (Kd.N_below (by (with_reducible repeat (first | apply nA | apply nN | apply nD)); exact HO159.out) hb); have n7_ := am (Kd.R_below (by (with_reducible repeat (first | apply rA | apply rN | apply rD)); exact HO162.out) hb); have n8_ := am (Kd.V_below (by (with_reducible repeat (first | apply vA | apply vN | apply vD)); exact HL163_1.out) hb); have n9_ := am (Kd.V_below (by (with_reducible repeat (first | apply vA | apply vN | apply vD)); exact HL163_2.out) hb); have n10_ := am (Kd.V_below (by (with_reducible repeat (first | apply vA | apply vN | apply vD)); exact HL163_3.out) hb); have n11_ := am (blk_below (g := gb147) (o := .cells #[.bool true, .slice Ao63 t138.length co63, .slice Ao64 t141.length co64, .slice Ao65 t144.length co65] 27 (0, 0)) (by (with_reducible repeat (first | refine blk_drewN ?_ _ | refine blk_drew ?_ | refine blk_alloc ?_ _)); exact BK147.out) hb); have n12_ := am (Kd.C_below (by repeat (first | (with_reducible exact HR163_1.out) | (with_reducible refine Kd.C_alloc ?_ _) | (with_reducible refine Kd.C_drewN ?_ _) | (with_reducible refine Kd.C_drew ?_) | exact HR163_1.out)) hb); have n13_ := am (Kd.C_below (by repeat (first | (with_reducible exact HR163_2.out) | (with_reducible refine Kd.C_alloc ?_ _) | (with_reducible refine Kd.C_drewN ?_ _) | (with_reducible refine Kd.C_drew ?_) | exact HR163_2.out)) hb); have n14_ := am (Kd.C_below (by repeat (first | (with_reducible exact HR163_3.out) | (with_reducible refine Kd.C_alloc ?_ _) | (with_reducible refine Kd.C_drewN ?_ _) | (with_reducible refine Kd.C_drew ?_) | exact HR163_3.out)) hb); have n15_ := am (below_step (by repeat (first | (with_reducible first | exact HB.out | apply below_alloc | apply pw_below_drewN | apply below_drew1 | refine below_set ?_ GE147.out) | exact HB.out)) hb); clear HO127; clear HO136; clear HO140; clear HO143; clear HO146; clear HO156; clear HO159; clear HO162; clear HL163_1; clear HL163_2; clear HL163_3; clear BK147; clear HR163_1; clear HR163_2; clear HR163_3; clear HB; have HO127 := n0_; have HO136 := n1_; have HO140 := n2_; have HO143 := n3_; have HO146 := n4_; have HO156 := n5_; have HO159 := n6_; have HO162 := n7_; have HL163_1 := n8_; have HL163_2 := n9_; have HL163_3 := n10_; have BK147 := n11_; have HR163_1 := n12_; have HR163_2 := n13_; have HR163_3 := n14_; have HB := n15_; clear n0_ n1_ n2_ n3_ n4_ n5_ n6_ n7_ n8_ n9_ n10_ n11_ n12_ n13_ n14_ n15_; (try clear hb); (try clear hb2); (try clear hk); (try clear hi); obtain ⟨Ao81, co81, eo81⟩ := Kd.R_slice HO162.out; subst eo81; have p165 : 0 ≤ (2 : Int) := (by omega); have q165 : 2 < (t160.length : Int) := of_decide_eq_true (by first | (with_reducible assumption) | assumption); obtain ⟨ad165, e165, hx165_0⟩ := Kd.at_string (Kd.R_reads' HO162.out).2.2 2 p165 q165; cases e165; (try simp only [show (2 : Int).toNat = 2 from rfl, Nat.reduceMul, Nat.reduceEqDiff, Go.Addr.add, ↓reduceIte] at hx165_0); have qi165 : (2 < t160.length) = True := eq_true (by omega); (try rw [show ((2 : Int)).toNat = 2 from rfl] at hx165_0); replace p165 := eq_true p165; replace q165 := eq_true q165) | (go_at_call 33; (with_reducible refine (pick_Same.calls k _ _ t157 _ _ t157 t166 _ ?side1 ?side2 ?side3 ?side4 A47.out).mono ?_); (case side1 => repeat (first | exact (Kd.N_reads' HO159.out).2.2 | (with_reducible refine Kd.C_alloc ?_ _) | (with_reducible refine Kd.C_drewN ?_ _) | (with_reducible refine Kd.C_drew ?_))); (case side2 => exact (Kd.N_reads' HO159.out).2.1); (case side3 => repeat (first | exact (Kd.N_reads' HO159.out).2.2 | (with_reducible refine Kd.C_alloc ?_ _) | (with_reducible refine Kd.C_drewN ?_ _) | (with_reducible refine Kd.C_drew ?_))); (case side4 => exact (Kd.N_reads' HO159.out).2.1); rintro e w82 ⟨rfl, hb⟩; have n0_ := am (Kd.R_below (by (with_reducible repeat (first | apply rA | apply rN | apply rD)); exact HO127.out) hb); have n1_ := am (Kd.N_below (by (with_reducible repeat (first | apply nA | apply nN | apply nD)); exact HO136.out) hb); have n2_ := am (Kd.V_below (by (with_reducible repeat (first | apply vA | apply vN | apply vD)); exact HO140.out) hb); have n3_ := am (Kd.V_below (by (with_reducible repeat (first | apply vA | apply vN | apply vD)); exact HO143.out) hb); have n4_ := am (Kd.V_below (by (with_reducible repeat (first | apply vA | apply vN | apply vD)); exact HO146.out) hb); have n5_ := am (Kd.N_below (by (with_reducible repeat (first | apply nA | apply nN | apply nD)); exact HO156.out) hb); have n6_ := am (Kd.N_below (by (with_reducible repeat (first | apply nA | apply nN | apply nD)); exact HO159.out) hb); have n7_ := am (Kd.R_below (by (with_reducible repeat (first | apply rA | apply rN | apply rD)); exact HO162.out) hb); have n8_ := am (Kd.V_below (by (with_reducible repeat (first | apply vA | apply vN | apply vD)); exact HL163_1.out) hb); have n9_ := am (Kd.V_below (by (with_reducible repeat (first | apply vA | apply vN | apply vD)); exact HL163_2.out) hb); have n10_ := am (Kd.V_below (by (with_reducible repeat (first | apply vA | apply vN | apply vD)); exact HL163_3.out) hb); have n11_ := am (blk_below (g := gb147) (o := .cells #[.bool true, .slice Ao63 t138.length co63, .slice Ao64 t141.length co64, .slice Ao65 t144.length co65] 27 (0, 0)) (by (with_reducible repeat (first | refine blk_drewN ?_ _ | refine blk_drew ?_ | refine blk_alloc ?_ _)); exact BK147.out) hb); have n12_ := am (Kd.C_below (by repeat (first | (with_reducible exact HR163_1.out) | (with_reducible refine Kd.C_alloc ?_ _) | (with_reducible refine Kd.C_drewN ?_ _) | (with_reducible refine Kd.C_drew ?_) | exact HR163_1.out)) hb); have n13_ := am (Kd.C_below (by repeat (first | (with_reducible exact HR163_2.out) | (with_reducible refine Kd.C_alloc ?_ _) | (with_reducible refine Kd.C_drewN ?_ _) | (with_reducible refine Kd.C_drew ?_) | exact HR163_2.out)) hb); have n14_ := am (Kd.C_below (by repeat (first | (with_reducible exact HR163_3.out) | (with_reducible refine Kd.C_alloc ?_ _) | (with_reducible refine Kd.C_drewN ?_ _) | (with_reducible refine Kd.C_drew ?_) | exact HR163_3.out)) hb); have n15_ := am (below_step (by repeat (first | (with_reducible first | exact HB.out | apply below_alloc | apply pw_below_drewN | apply below_drew1 | refine below_set ?_ GE147.out) | exact HB.out)) hb); clear HO127; clear HO136; clear HO140; clear HO143; clear HO146; clear HO156; clear HO159; clear HO162; clear HL163_1; clear HL163_2; clear HL163_3; clear BK147; clear HR163_1; clear HR163_2; clear HR163_3; clear HB; have HO127 := n0_; have HO136 := n1_; have HO140 := n2_; have HO143 := n3_; have HO146 := n4_; have HO156 := n5_; have HO159 := n6_; have HO162 := n7_; have HL163_1 := n8_; have HL163_2 := n9_; have HL163_3 := n10_; have BK147 := n11_; have HR163_1 := n12_; have HR163_2 := n13_; have HR163_3 := n14_; have HB := n15_; clear n0_ n1_ n2_ n3_ n4_ n5_ n6_ n7_ n8_ n9_ n10_ n11_ n12_ n13_ n14_ n15_; (try clear hb); (try clear hb2); (try clear hk); (try clear hi)))
                    go_ret
                    exact ⟨by first | rfl | (simp [errW_none, errW_some] <;> rfl) | (simp [*, errW_none, errW_some] <;> rfl), by repeat (first | (with_reducible first | exact HB.out | apply below_alloc | apply pw_below_drewN | apply below_drew1 | refine below_set ?_ GE147.out) | exact HB.out)⟩
                  · rw [if_neg c46] at H
                    have c46b0 : ((rdOf ByteArray.empty t160 2).toList == ([99] : List UInt8)) = false := beq_eq_false_iff_ne.mpr c46
                    have c46b1 : ((rdOf ByteArray.empty t160 2).toList != ([99] : List UInt8)) = true := bne_iff_ne.mpr c46
                    exact absurd H (by simp)
                · rw [if_neg c45] at H
                  exact absurd H (by simp)
              · rw [if_neg c44] at H
                have c44b0 : ((t160.length : Int) == 3) = false := beq_eq_false_iff_ne.mpr c44
                have c44b1 : ((t160.length : Int) != 3) = true := bne_iff_ne.mpr c44
                exact absurd H (by simp)
          · rw [if_neg c8] at H
            have c8b0 : ((((rd_T27 t157 0).f1).length : Int) == 2) = false := beq_eq_false_iff_ne.mpr c8
            have c8b1 : ((((rd_T27 t157 0).f1).length : Int) != 2) = true := bne_iff_ne.mpr c8
            exact absurd H (by simp)
        · rw [if_neg c7] at H
          exact absurd H (by simp)
      · rw [if_neg c6] at H
        have c6b0 : ((t157.length : Int) == 2) = false := beq_eq_false_iff_ne.mpr c6
        have c6b1 : ((t157.length : Int) != 2) = true := bne_iff_ne.mpr c6
        exact absurd H (by simp)
    · rw [if_neg c5] at H
      have c5b0 : ((t144.length : Int) == 2) = false := beq_eq_false_iff_ne.mpr c5
      have c5b1 : ((t144.length : Int) != 2) = true := bne_iff_ne.mpr c5
      exact absurd H (by simp)
  · replace c4 := Bool.eq_false_iff.mpr c4
    subst c4
    have H1 : (none) = some r := by rw [if_neg (show ¬ (false = true) by decide)] at H; exact H
    clear H
    have H := H1
    clear H1
    exact absurd H (by simp)

end Go.Proofs.Ytiaoppikdgoieaa.M
namespace Go.Proofs.Ytiaoppikdgoieaa.M
open Go.RowKit Go.Proofs.YtiaoppikdgoieaaW.PrintWords Go.Proofs.YtiaoppikdgoieaaW.PrintLast Go.Proofs.YtiaoppikdgoieaaW.PrintMore
attribute [local go_sem] max2_int min2_int max_two min_two max_three min_three max_four min_four
set_option linter.unusedVariables false
set_option linter.unusedSimpArgs false

/-! ### sennitlaw07_PickUnion: function 3 -/
def sennitlaw07_PickUnion.l0 : Nat → List ByteArray → Bool → List ByteArray → Bool → List (List ByteArray) → Int → Bool → List ByteArray → List ByteArray → List (List ByteArray) → Option (Bool)
  | 0, _, _, _, _, _, _, _, _, _, _ => none
  | k + 1, x0, x5, x7, x8, x9, x10, x196000, x196001, x196002, x196003 => if x10 < (x9.length : Int) then (if 0 ≤ x10 then (if x7.length + (rd_L1 x9 x10).length < 8796093022208 then ((some (x7 ++ (rd_L1 x9 x10) : List ByteArray)).bind fun y200 => (if x8 = true then (sennitlaw07_PickUnion.l0 k x0 x5 y200 true x9 (wrap64 (x10 + 1)) x196000 x196001 x196002 x196003) else ((sennitref01_Open.f (rd_L1 x9 x10)).bind fun t204 => (sennitlaw07_PickUnion.l0 k x0 x5 y200 t204 x9 (wrap64 (x10 + 1)) x196000 x196001 x196002 x196003)))) else (none)) else (none)) else (if (x9.length : Int) = 0 then (if x5 = true then (if x196000 = true then (some false) else (if (x196001.length : Int) = (x0.length : Int) then (if x8 = true then (some true) else ((sennitref01_Same.f k x196001 x0).bind fun t205 => (some t205))) else (some false))) else (some false)) else (if x5 = true then (if x196000 = true then (some false) else (if (x196001.length : Int) = (x7.length : Int) then (if x8 = true then (some true) else ((sennitref01_Same.f k x196001 x7).bind fun t206 => (some t206))) else (some false))) else (some false)))
def sennitlaw07_PickUnion.f (k : Nat) (l0 : List ByteArray) (l1 : List (List ByteArray)) : Option (Bool) := (sennitlaw07_awake.f k).bind fun t183 => ((sennitref06_Few.f k l0 l1).bind fun t184 => (if t184 = true then ((pick_Piece.f k l0 l1 0 true).bind fun bt185 => ((sennitref06_Differing.f k l0 l1).bind fun t196 => (sennitlaw07_PickUnion.l0 k l0 t183 ([] : List ByteArray) false t196 0 bt185.1 bt185.2.1 bt185.2.2.1 bt185.2.2.2))) else (some t183)))
theorem sennitlaw07_PickUnion.mono_l : ∀ k, (∀ y0 y1 y2 y3 y4 y5 y6 y7 y8 y9, LeO (sennitlaw07_PickUnion.l0 k y0 y1 y2 y3 y4 y5 y6 y7 y8 y9) (sennitlaw07_PickUnion.l0 (k + 1) y0 y1 y2 y3 y4 y5 y6 y7 y8 y9))
  | 0 => fun _ _ _ _ _ _ _ _ _ _ r h => by simp [sennitlaw07_PickUnion.l0] at h
  | k + 1 => by
    have ih0 := sennitlaw07_PickUnion.mono_l k
    · intro y0 y1 y2 y3 y4 y5 y6 y7 y8 y9
      unfold sennitlaw07_PickUnion.l0
      repeat' first
      | (with_reducible exact ih0 _ _ _ _ _ _ _ _ _ _)
      | (with_reducible exact pick_Piece.mono _ _ _ _ _)
      | (with_reducible exact sennitlaw07_awake.mono _)
      | (with_reducible exact sennitref01_Same.mono _ _ _)
      | (with_reducible exact sennitref06_Differing.mono _ _ _)
      | (with_reducible exact sennitref06_Few.mono _ _ _)
      | (with_reducible exact LeO.refl _)
      | (with_reducible exact LeO.none _)
      | (with_reducible refine LeO.ite ?_ ?_)
      | (with_reducible refine LeO.bind ?_ (fun _ => ?_))
      | exact ih0 _ _ _ _ _ _ _ _ _ _
      | exact pick_Piece.mono _ _ _ _ _
      | exact sennitlaw07_awake.mono _
      | exact sennitref01_Same.mono _ _ _
      | exact sennitref06_Differing.mono _ _ _
      | exact sennitref06_Few.mono _ _ _
      | exact LeO.none _
      | refine LeO.ite ?_ ?_
      | refine LeO.bind ?_ (fun _ => ?_)
theorem sennitlaw07_PickUnion.mono : ∀ a0 a1 k, LeO (sennitlaw07_PickUnion.f k a0 a1) (sennitlaw07_PickUnion.f (k + 1) a0 a1) := by
  intro a0 a1 k
  have ih0 := sennitlaw07_PickUnion.mono_l k
  unfold sennitlaw07_PickUnion.f
  repeat' first
      | (with_reducible exact ih0 _ _ _ _ _ _ _ _ _ _)
      | (with_reducible exact pick_Piece.mono _ _ _ _ _)
      | (with_reducible exact sennitlaw07_awake.mono _)
      | (with_reducible exact sennitref01_Same.mono _ _ _)
      | (with_reducible exact sennitref06_Differing.mono _ _ _)
      | (with_reducible exact sennitref06_Few.mono _ _ _)
      | (with_reducible exact LeO.refl _)
      | (with_reducible exact LeO.none _)
      | (with_reducible refine LeO.ite ?_ ?_)
      | (with_reducible refine LeO.bind ?_ (fun _ => ?_))
      | exact ih0 _ _ _ _ _ _ _ _ _ _
      | exact pick_Piece.mono _ _ _ _ _
      | exact sennitlaw07_awake.mono _
      | exact sennitref01_Same.mono _ _ _
      | exact sennitref06_Differing.mono _ _ _
      | exact sennitref06_Few.mono _ _ _
      | exact LeO.none _
      | refine LeO.ite ?_ ?_
      | refine LeO.bind ?_ (fun _ => ?_)
set_option maxHeartbeats 8000000 in
set_option maxRecDepth 100000 in
theorem sennitlaw07_PickUnion.calls (k : Nat) (A0 : Option Addr) (c0 : Nat) (l0 : List ByteArray) (A1 : Option Addr) (c1 : Nat) (l1 : List (List ByteArray)) (r : Bool) (w : World) (hr0 : Kd.C Kd.string w A0 l0.length l0) (hc0 : l0.length ≤ c0) (hr1 : Kd.C (Kd.slice 9 Kd.string) w A1 l1.length l1) (hc1 : l1.length ≤ c1) (h : sennitlaw07_PickUnion.f k l0 l1 = some r) :
    Calls Try.prog 3 #[.slice A0 l0.length c0, .slice A1 l1.length c1] w fun e w' => e = .returned (.bool r) ∧ Below w.heap.size w w' := by
  have hu30 := Try.underlying30
  have hu27 := Try.underlying27
  have HR0 := Aside0.mk hr0
  have HC0 := Aside0.mk hc0
  clear hr0 hc0
  have HR1 := Aside0.mk hr1
  have HC1 := Aside0.mk hc1
  clear hr1 hc1
  have HB := Aside0.mk (Below.refl w.heap.size w)
  have H : ((sennitlaw07_awake.f k).bind fun t183 => ((sennitref06_Few.f k l0 l1).bind fun t184 => (if t184 = true then ((pick_Piece.f k l0 l1 0 true).bind fun bt185 => ((sennitref06_Differing.f k l0 l1).bind fun t196 => (sennitlaw07_PickUnion.l0 k l0 t183 ([] : List ByteArray) false t196 0 bt185.1 bt185.2.1 bt185.2.2.1 bt185.2.2.2))) else (some t183)))) = some r := h
  clear h
  replace H := Option.bind_eq_some_iff.mp H
  obtain ⟨t183, A30, H⟩ := H
  replace H : ((sennitref06_Few.f k l0 l1).bind fun t184 => (if t184 = true then ((pick_Piece.f k l0 l1 0 true).bind fun bt185 => ((sennitref06_Differing.f k l0 l1).bind fun t196 => (sennitlaw07_PickUnion.l0 k l0 t183 ([] : List ByteArray) false t196 0 bt185.1 bt185.2.1 bt185.2.2.1 bt185.2.2.2))) else (some t183))) = some r := H
  have A3 := Aside0.mk A30
  clear A30
  replace H := Option.bind_eq_some_iff.mp H
  obtain ⟨t184, A40, H⟩ := H
  replace H : (if t184 = true then ((pick_Piece.f k l0 l1 0 true).bind fun bt185 => ((sennitref06_Differing.f k l0 l1).bind fun t196 => (sennitlaw07_PickUnion.l0 k l0 t183 ([] : List ByteArray) false t196 0 bt185.1 bt185.2.1 bt185.2.2.1 bt185.2.2.2))) else (some t183)) = some r := H
  have A4 := Aside0.mk A40
  clear A40
  by_cases c5 : t184 = true
  · subst c5
    have H1 : ((pick_Piece.f k l0 l1 0 true).bind fun bt185 => ((sennitref06_Differing.f k l0 l1).bind fun t196 => (sennitlaw07_PickUnion.l0 k l0 t183 ([] : List ByteArray) false t196 0 bt185.1 bt185.2.1 bt185.2.2.1 bt185.2.2.2))) = some r := by rw [if_pos rfl] at H; exact H
    clear H
    have H := H1
    clear H1
    replace H := Option.bind_eq_some_iff.mp H
    obtain ⟨⟨t185, t186, t189, t192⟩, A60, H⟩ := H
    replace H : ((sennitref06_Differing.f k l0 l1).bind fun t196 => (sennitlaw07_PickUnion.l0 k l0 t183 ([] : List ByteArray) false t196 0 t185 t186 t189 t192)) = some r := H
    have A6 := Aside0.mk A60
    clear A60
    replace H := Option.bind_eq_some_iff.mp H
    obtain ⟨t196, A70, H⟩ := H
    replace H : (sennitlaw07_PickUnion.l0 k l0 t183 ([] : List ByteArray) false t196 0 t185 t186 t189 t192) = some r := H
    have A7 := Aside0.mk A70
    clear A70
    have H' := Aside0.mk H
    clear H
    go_enter Try.func3, Try.ntmps3
    go_wp2_with (first | ((with_reducible refine gate_callee (f := 19) rfl ?_); refine goesL_ (some 11) rfl rfl Try.func19 (by kernel_rfl) rfl #[] rfl (by (try simp only [List.map_toArray, List.map_cons, List.map_nil]); first | done | rfl | (simp only [List.length_drop, List.length_take]; rfl)) ?_; (with_reducible refine (sennitlaw07_awake.calls k  t183 _ A3.out).mono ?_); rintro e w8 ⟨rfl, hb⟩; refine ⟨_, rfl, ?_⟩; have n0_ := Aside0.mk (below_step (by repeat (first | (with_reducible first | exact HB.out | apply below_alloc | apply pw_below_drewN | apply below_drew1) | exact HB.out)) hb); clear HB; have HB := n0_; clear n0_; (try clear hb); (try clear hb2); (try clear hk); (try clear hi)) | ((with_reducible refine gate_callee (f := 20) rfl ?_); refine goesL_ (some 14) rfl rfl Try.func20 (by kernel_rfl) rfl #[.slice A0 l0.length c0, .slice A1 l1.length c1] rfl (by (try simp only [List.map_toArray, List.map_cons, List.map_nil]); first | done | rfl | (simp only [List.length_drop, List.length_take]; rfl)) ?_; (with_reducible refine (sennitref06_Few.calls k _ _ l0 _ _ l1 true _ ?side1 ?side2 ?side3 ?side4 A4.out).mono ?_); (case side1 => repeat (first | exact (Kd.C_below HR0.out HB.out) | (with_reducible refine Kd.C_alloc ?_ _) | (with_reducible refine Kd.C_drewN ?_ _) | (with_reducible refine Kd.C_drew ?_))); (case side2 => exact HC0.out); (case side3 => repeat (first | exact (Kd.C_below HR1.out HB.out) | (with_reducible refine Kd.C_alloc ?_ _) | (with_reducible refine Kd.C_drewN ?_ _) | (with_reducible refine Kd.C_drew ?_))); (case side4 => exact HC1.out); rintro e w' ⟨rfl, ⟨nd, rfl⟩⟩; refine ⟨_, rfl, ?_⟩; (try (rw [drewN_self w8]; generalize hq_ : World.drewN w8 _ = w8; have n0_ : Aside0 (Below w.heap.size w w8) := ⟨by rw [← hq_]; exact (by repeat (first | (with_reducible first | exact HB.out | apply below_alloc | apply pw_below_drewN | apply below_drew1) | exact HB.out))⟩; clear HB hq_; have HB := n0_; clear n0_))) | ((with_reducible refine gate_callee (f := 21) rfl ?_); refine goesL_ (some 20) rfl rfl Try.func21 (by kernel_rfl) rfl #[.slice A0 l0.length c0, .slice A1 l1.length c1, .agg #[.int .i64 0, .bool true]] rfl (by (try simp only [List.map_toArray, List.map_cons, List.map_nil]); first | done | rfl | (simp only [List.length_drop, List.length_take]; rfl)) ?_; (with_reducible refine (pick_Piece.calls k (fun k_ => k_ < w.heap.size) _ _ l0 (fun k_ => k_ < w.heap.size) _ _ l1 0 true t185 t186 t189 t192 _ ?side1 ?side2 A6.out).mono ?_); (case side1 => exact Kd.V_mk HC0.out (Kd.F_below (Kd.C_F Kd.heap_string HR0.out) (by repeat (first | (with_reducible first | exact HB.out | apply below_alloc | apply pw_below_drewN | apply below_drew1) | exact HB.out)))); (case side2 => exact Kd.V_mk HC1.out (Kd.F_below (Kd.C_F (Kd.heap_slice 9 Kd.heap_string) HR1.out) (by repeat (first | (with_reducible first | exact HB.out | apply below_alloc | apply pw_below_drewN | apply below_drew1) | exact HB.out)))); rintro e w9 ⟨v187, v190, v193, rfl, ho0, ho1, ho2, hb⟩; refine ⟨_, rfl, ?_⟩; have n0_ := Aside0.mk (Kd.V_lower (Kd.V_mono (ok' := fun k_ => True) ho0 (fun k_ hk_ => trivial)) (below_size (by repeat (first | (with_reducible first | exact HB.out | apply below_alloc | apply pw_below_drewN | apply below_drew1) | exact HB.out)))); have n1_ := Aside0.mk (Kd.V_lower (Kd.V_mono (ok' := fun k_ => True) ho1 (fun k_ hk_ => trivial)) (below_size (by repeat (first | (with_reducible first | exact HB.out | apply below_alloc | apply pw_below_drewN | apply below_drew1) | exact HB.out)))); have n2_ := Aside0.mk (Kd.V_lower (Kd.V_mono (ok' := fun k_ => True) ho2 (fun k_ hk_ => trivial)) (below_size (by repeat (first | (with_reducible first | exact HB.out | apply below_alloc | apply pw_below_drewN | apply below_drew1) | exact HB.out)))); have n3_ := Aside0.mk (below_step (by repeat (first | (with_reducible first | exact HB.out | apply below_alloc | apply pw_below_drewN | apply below_drew1) | exact HB.out)) hb); clear HB; have HO188 := n0_; have HO191 := n1_; have HO194 := n2_; have HB := n3_; clear n0_ n1_ n2_ n3_; (try clear hb); (try clear hb2); (try clear hk); (try clear hi); (try clear ho0); (try clear ho1); (try clear ho2)) | ((with_reducible refine gate_dst (N := 6) rfl ?_); (try (refine gate_guard (by rfl) ?_; dsimp only)); refine box_event ?hg (N := 6) ?hd (cs := #[.bool false, .slice none 0 0, .slice none 0 0, .slice none 0 0]) (t := 27) ?hr ?_; (case hd => rfl); (case hg => rfl); (case hr => first | (go_simp; done) | (go_simp; rfl)); intro gb195 hg w10 hbox hb; have n0_ := Aside0.mk (Kd.V_below (Kd.V_elderB (by (with_reducible repeat (first | apply Kd.V_alloc | apply Kd.V_drewN | apply Kd.V_drew)); exact HO188.out) gb195 (Nat.le_of_eq hg.symm)) hb); have n1_ := Aside0.mk (Kd.V_below (Kd.V_elderB (by (with_reducible repeat (first | apply Kd.V_alloc | apply Kd.V_drewN | apply Kd.V_drew)); exact HO191.out) gb195 (Nat.le_of_eq hg.symm)) hb); have n2_ := Aside0.mk (Kd.V_below (Kd.V_elderB (by (with_reducible repeat (first | apply Kd.V_alloc | apply Kd.V_drewN | apply Kd.V_drew)); exact HO194.out) gb195 (Nat.le_of_eq hg.symm)) hb); have n3_ := Aside0.mk (below_step (by repeat (first | (with_reducible first | exact HB.out | apply below_alloc | apply pw_below_drewN | apply below_drew1) | exact HB.out)) hb); have n4_ := Aside0.mk (hbox); have n5_ := Aside0.mk ((by rw [hg]; exact (below_size (by repeat (first | (with_reducible first | exact HB.out | apply below_alloc | apply pw_below_drewN | apply below_drew1) | exact HB.out))) : w.heap.size ≤ gb195)); have n6_ := Aside0.mk ((by rw [hg]; exact (below_size (by repeat (first | (with_reducible first | exact HB.out | apply below_alloc | apply pw_below_drewN | apply below_drew1) | exact HB.out))) : w.heap.size ≤ gb195)); clear HO188; clear HO191; clear HO194; clear HB; have HO188 := n0_; have HO191 := n1_; have HO194 := n2_; have HB := n3_; have BK195 := n4_; have GW195 := n5_; have GE195 := n6_; clear n0_ n1_ n2_ n3_ n4_ n5_ n6_; clear hb hbox hg; have hcz11_0 : w10.cell? ⟨gb195, 0, none⟩ = some (.bool false) := (blk_cell BK195.out 0).trans rfl; have hcz11_1 : w10.cell? ⟨gb195, 1, none⟩ = some (.slice none 0 0) := (blk_cell BK195.out 1).trans rfl; have hcz11_2 : w10.cell? ⟨gb195, 2, none⟩ = some (.slice none 0 0) := (blk_cell BK195.out 2).trans rfl; have hcz11_3 : w10.cell? ⟨gb195, 3, none⟩ = some (.slice none 0 0) := (blk_cell BK195.out 3).trans rfl; have hfz11_0 := blk_frozen BK195.out 0; have hfz11_1 := blk_frozen BK195.out 1; have hfz11_2 := blk_frozen BK195.out 2; have hfz11_3 := blk_frozen BK195.out 3; obtain ⟨Ao12, co12, eo12⟩ := Kd.V_slice HO188.out; subst eo12; obtain ⟨Ao13, co13, eo13⟩ := Kd.V_slice HO191.out; subst eo13; obtain ⟨Ao14, co14, eo14⟩ := Kd.V_slice HO194.out; subst eo14) | ((with_reducible refine gate_store (t := 27) (p := 6) rfl ?_); refine store_event (t := 27) (p := 6) (v := ?vo_w15) (w1 := ((((w10.setCell ⟨gb195, 0, none⟩ (.bool t185)).setCell ⟨gb195, 1, none⟩ (.slice Ao12 t186.length co12)).setCell ⟨gb195, 2, none⟩ (.slice Ao13 t189.length co13)).setCell ⟨gb195, 3, none⟩ (.slice Ao14 t192.length co14))) ?hg ?ho ?hn ?hr ?_; (case ho => rfl); (case hg => rfl); (case hn => rfl); (case hr => first | (go_simp; done) | (go_simp; rfl)); intro w15 hw; have n0_ : Aside0 (Kd.V Kd.string 9 w15 w.heap.size (fun k_ => k_ ≠ gb195) (.slice Ao12 t186.length co12) t186) := ⟨(by rw [hw]; exact (by (with_reducible repeat (first | apply Kd.V_alloc | apply Kd.V_drewN | apply Kd.V_drew)); exact Kd.V_mono (Kd.V_far (p := ⟨gb195, 3, none⟩) (Kd.V_far (p := ⟨gb195, 2, none⟩) (Kd.V_far (p := ⟨gb195, 1, none⟩) (Kd.V_far (p := ⟨gb195, 0, none⟩) (Kd.V_mono HO188.out (fun k_ hk => (⟨hk, hk.2⟩ : _ ∧ k_ ≠ gb195))) (fun _ hk => hk.2) (.bool t185)) (fun _ hk => hk.2) (.slice Ao12 t186.length co12)) (fun _ hk => hk.2) (.slice Ao13 t189.length co13)) (fun _ hk => hk.2) (.slice Ao14 t192.length co14)) (fun _ hk => hk.1.2)))⟩; have n1_ : Aside0 (Kd.V Kd.string 9 w15 w.heap.size (fun k_ => k_ ≠ gb195) (.slice Ao13 t189.length co13) t189) := ⟨(by rw [hw]; exact (by (with_reducible repeat (first | apply Kd.V_alloc | apply Kd.V_drewN | apply Kd.V_drew)); exact Kd.V_mono (Kd.V_far (p := ⟨gb195, 3, none⟩) (Kd.V_far (p := ⟨gb195, 2, none⟩) (Kd.V_far (p := ⟨gb195, 1, none⟩) (Kd.V_far (p := ⟨gb195, 0, none⟩) (Kd.V_mono HO191.out (fun k_ hk => (⟨hk, hk.2⟩ : _ ∧ k_ ≠ gb195))) (fun _ hk => hk.2) (.bool t185)) (fun _ hk => hk.2) (.slice Ao12 t186.length co12)) (fun _ hk => hk.2) (.slice Ao13 t189.length co13)) (fun _ hk => hk.2) (.slice Ao14 t192.length co14)) (fun _ hk => hk.1.2)))⟩; have n2_ : Aside0 (Kd.V (Kd.slice 9 Kd.string) 22 w15 w.heap.size (fun k_ => k_ ≠ gb195) (.slice Ao14 t192.length co14) t192) := ⟨(by rw [hw]; exact (by (with_reducible repeat (first | apply Kd.V_alloc | apply Kd.V_drewN | apply Kd.V_drew)); exact Kd.V_mono (Kd.V_far (p := ⟨gb195, 3, none⟩) (Kd.V_far (p := ⟨gb195, 2, none⟩) (Kd.V_far (p := ⟨gb195, 1, none⟩) (Kd.V_far (p := ⟨gb195, 0, none⟩) (Kd.V_mono HO194.out (fun k_ hk => (⟨hk, hk.2⟩ : _ ∧ k_ ≠ gb195))) (fun _ hk => hk.2) (.bool t185)) (fun _ hk => hk.2) (.slice Ao12 t186.length co12)) (fun _ hk => hk.2) (.slice Ao13 t189.length co13)) (fun _ hk => hk.2) (.slice Ao14 t192.length co14)) (fun _ hk => hk.1.2)))⟩; have n3_ : Aside0 (w15.heap[gb195]? = some (.cells #[.bool t185, .slice Ao12 t186.length co12, .slice Ao13 t189.length co13, .slice Ao14 t192.length co14] 27 (0, 0))) := ⟨(by rw [hw]; exact (by (with_reducible repeat (first | refine blk_drewN ?_ _ | refine blk_drew ?_ | refine blk_alloc ?_ _)); refine blk_put (cs := #[.bool t185, .slice Ao12 t186.length co12, .slice Ao13 t189.length co13, .slice none 0 0]) ?_ 3 _ rfl; (with_reducible repeat (first | refine blk_drewN ?_ _ | refine blk_drew ?_ | refine blk_alloc ?_ _)); refine blk_put (cs := #[.bool t185, .slice Ao12 t186.length co12, .slice none 0 0, .slice none 0 0]) ?_ 2 _ rfl; (with_reducible repeat (first | refine blk_drewN ?_ _ | refine blk_drew ?_ | refine blk_alloc ?_ _)); refine blk_put (cs := #[.bool t185, .slice none 0 0, .slice none 0 0, .slice none 0 0]) ?_ 1 _ rfl; (with_reducible repeat (first | refine blk_drewN ?_ _ | refine blk_drew ?_ | refine blk_alloc ?_ _)); refine blk_put (cs := #[.bool false, .slice none 0 0, .slice none 0 0, .slice none 0 0]) ?_ 0 _ rfl; (with_reducible repeat (first | refine blk_drewN ?_ _ | refine blk_drew ?_ | refine blk_alloc ?_ _)); exact BK195.out))⟩; have n4_ : Aside0 (Below w.heap.size w w15) := ⟨(by rw [hw]; exact (by repeat (first | (with_reducible first | exact HB.out | apply below_alloc | apply pw_below_drewN | apply below_drew1 | refine below_set ?_ GE195.out) | exact HB.out)))⟩; clear hw; clear HO188; clear HO191; clear HO194; clear BK195; clear HB; have HO188 := n0_; have HO191 := n1_; have HO194 := n2_; have BK195 := n3_; have HB := n4_; clear n0_ n1_ n2_ n3_ n4_) | ((with_reducible refine gate_callee (f := 22) rfl ?_); refine goesL_ (some 23) rfl rfl Try.func22 (by kernel_rfl) rfl #[.slice A0 l0.length c0, .slice A1 l1.length c1] rfl (by (try simp only [List.map_toArray, List.map_cons, List.map_nil]); first | done | rfl | (simp only [List.length_drop, List.length_take]; rfl)) ?_; (with_reducible refine (sennitref06_Differing.calls k _ _ l0 (fun k_ => k_ < w.heap.size) _ _ l1 t196 _ ?side1 ?side2 ?side3 A7.out).mono ?_); (case side1 => repeat (first | exact (Kd.C_below HR0.out HB.out) | (with_reducible refine Kd.C_alloc ?_ _) | (with_reducible refine Kd.C_drewN ?_ _) | (with_reducible refine Kd.C_drew ?_))); (case side2 => exact HC0.out); (case side3 => exact Kd.V_mk HC1.out (Kd.F_below (Kd.C_F (Kd.heap_slice 9 Kd.heap_string) HR1.out) (by repeat (first | (with_reducible first | exact HB.out | apply below_alloc | apply pw_below_drewN | apply below_drew1 | refine below_set ?_ GE195.out) | exact HB.out)))); rintro e w16 ⟨v197, rfl, ho0, hb⟩; refine ⟨_, rfl, ?_⟩; have n0_ := Aside0.mk (Kd.V_elder' (by (with_reducible repeat (first | apply Kd.V_alloc | apply Kd.V_drewN | apply Kd.V_drew)); exact HO188.out) (Kd.N_base ho0) hb); have n1_ := Aside0.mk (Kd.V_elder' (by (with_reducible repeat (first | apply Kd.V_alloc | apply Kd.V_drewN | apply Kd.V_drew)); exact HO191.out) (Kd.N_base ho0) hb); have n2_ := Aside0.mk (Kd.V_elder' (by (with_reducible repeat (first | apply Kd.V_alloc | apply Kd.V_drewN | apply Kd.V_drew)); exact HO194.out) (Kd.N_base ho0) hb); have n3_ := Aside0.mk (Kd.N_lower (Kd.N_mono (ok' := fun k_ => k_ ≠ gb195) ho0 (fun k_ hk_ => Or.elim hk_ (fun hs_ => fun e_ => Nat.not_le.2 hs_ (by rw [e_]; exact GW195.out)) (fun hn_ => (Kd.freshB (g := gb195) (o := .cells #[.bool t185, .slice Ao12 t186.length co12, .slice Ao13 t189.length co13, .slice Ao14 t192.length co14] 27 (0, 0)) (by (with_reducible repeat (first | refine blk_drewN ?_ _ | refine blk_drew ?_ | refine blk_alloc ?_ _)); exact BK195.out) k_ hn_)))) (below_size (by repeat (first | (with_reducible first | exact HB.out | apply below_alloc | apply pw_below_drewN | apply below_drew1 | refine below_set ?_ GE195.out) | exact HB.out)))); have n4_ := Aside0.mk (blk_below (g := gb195) (o := .cells #[.bool t185, .slice Ao12 t186.length co12, .slice Ao13 t189.length co13, .slice Ao14 t192.length co14] 27 (0, 0)) (by (with_reducible repeat (first | refine blk_drewN ?_ _ | refine blk_drew ?_ | refine blk_alloc ?_ _)); exact BK195.out) hb); have n5_ := Aside0.mk (below_step (by repeat (first | (with_reducible first | exact HB.out | apply below_alloc | apply pw_below_drewN | apply below_drew1 | refine below_set ?_ GE195.out) | exact HB.out)) hb); clear HO188; clear HO191; clear HO194; clear BK195; clear HB; have HO188 := n0_; have HO191 := n1_; have HO194 := n2_; have HO198 := n3_; have BK195 := n4_; have HB := n5_; clear n0_ n1_ n2_ n3_ n4_ n5_; (try clear hb); (try clear hb2); (try clear hk); (try clear hi); (try clear ho0)))
    go_loopg [7, 8, 10] k (fun kq v7 v8 v10 w' => ∃ (x7_1 : List ByteArray) (x8_1 : Bool) (x10_1 : Int), v8 = .bool x8_1 ∧ v10 = .int .i64 x10_1 ∧ Aside0 (sennitlaw07_PickUnion.l0 kq l0 t183 x7_1 x8_1 t196 x10_1 t185 t186 t189 t192 = some r) ∧ Aside0 (kq ≤ k) ∧ Aside0 (Kd.R Kd.string 9 w' w.heap.size (fun _ => True) v7 x7_1) ∧ Aside0 (Kd.N (Kd.slice 9 Kd.string) 22 w' w.heap.size (fun k_ => some k_ ≠ (v7 : Value).ownBlock ∧ k_ ≠ gb195) v197 t196) ∧ Aside0 (Kd.V Kd.string 9 w' w.heap.size (fun k_ => some k_ ≠ (v7 : Value).ownBlock ∧ some k_ ≠ (v197 : Value).ownBlock ∧ k_ ≠ gb195) (.slice Ao12 t186.length co12) t186) ∧ Aside0 (Kd.V Kd.string 9 w' w.heap.size (fun k_ => some k_ ≠ (v7 : Value).ownBlock ∧ some k_ ≠ (v197 : Value).ownBlock ∧ k_ ≠ gb195) (.slice Ao13 t189.length co13) t189) ∧ Aside0 (Kd.V (Kd.slice 9 Kd.string) 22 w' w.heap.size (fun k_ => some k_ ≠ (v7 : Value).ownBlock ∧ some k_ ≠ (v197 : Value).ownBlock ∧ k_ ≠ gb195) (.slice Ao14 t192.length co14) t192) ∧ Aside0 (w'.heap[gb195]? = some (.cells #[.bool t185, (.slice Ao12 t186.length co12), (.slice Ao13 t189.length co13), (.slice Ao14 t192.length co14)] 27 (0, 0))) ∧ Aside0 (Below w.heap.size w w'))
    case atStart => exact ⟨(([] : List ByteArray)), (false), (0), (by first | rfl | (simp; done) | (simp [*]; done)), (by first | rfl | (simp; done) | (simp [*]; done)), H', ⟨Nat.le_refl _⟩, ⟨by first | exact Kd.R_nil _ _ _ _ _ | exact Kd.N_nil _ _ _ _ _ | exact Kd.V_nil _ _ _ _ _ | exact Kd.Q_nil _ _ _ _ _ | exact Kd.S_nil _ _ _ _ _⟩, ⟨by (with_reducible repeat (first | apply Kd.N_alloc | apply Kd.N_drewN | apply Kd.N_drew)); exact Kd.N_mono HO198.out (fun _ hk => ⟨(by simp [Value.ownBlock]), hk⟩)⟩, ⟨by (with_reducible repeat (first | apply Kd.V_alloc | apply Kd.V_drewN | apply Kd.V_drew)); exact Kd.V_mono HO188.out (fun _ hk => ⟨(by simp [Value.ownBlock]), ⟨hk.2, hk.1⟩⟩)⟩, ⟨by (with_reducible repeat (first | apply Kd.V_alloc | apply Kd.V_drewN | apply Kd.V_drew)); exact Kd.V_mono HO191.out (fun _ hk => ⟨(by simp [Value.ownBlock]), ⟨hk.2, hk.1⟩⟩)⟩, ⟨by (with_reducible repeat (first | apply Kd.V_alloc | apply Kd.V_drewN | apply Kd.V_drew)); exact Kd.V_mono HO194.out (fun _ hk => ⟨(by simp [Value.ownBlock]), ⟨hk.2, hk.1⟩⟩)⟩, ⟨by (with_reducible repeat (first | refine blk_drewN ?_ _ | refine blk_drew ?_ | refine blk_alloc ?_ _)); exact BK195.out⟩, ⟨by repeat (first | (with_reducible first | exact HB.out | apply below_alloc | apply pw_below_drewN | apply below_drew1 | refine below_set ?_ GE195.out) | exact HB.out)⟩⟩
    case round =>
      clear H'
      try clear c1
      try clear c2
      try clear p2
      try clear c3
      try clear c5
      try clear hcz11_0
      try clear hcz11_1
      try clear hcz11_2
      try clear hcz11_3
      try clear hfz11_0
      try clear hfz11_1
      try clear hfz11_2
      try clear hfz11_3
      obtain ⟨x7_1, x8_1, x10_1, rfl, rfl, HA, HK1, HO_7, HO_9, HO_196001, HO_196002, HO_196003, BK195, HB⟩ := hrel
      cases gk with
      | zero => exact absurd HA.out (by simp [sennitlaw07_PickUnion.l0])
      | succ k1 =>
        have H := HA.out
        clear HA
        simp only [sennitlaw07_PickUnion.l0] at H
        by_cases c17 : x10_1 < (t196.length : Int)
        · rw [if_pos c17] at H
          have c17b0 : decide (x10_1 < (t196.length : Int)) = true := decide_eq_true c17
          clear c17
          by_cases c18 : 0 ≤ x10_1
          · rw [if_pos c18] at H
            have c18b0 : decide (0 ≤ x10_1) = true := decide_eq_true c18
            clear c18
            by_cases c19 : x7_1.length + (rd_L1 t196 x10_1).length < 8796093022208
            · rw [if_pos c19] at H
              have LMc19 := Aside0.mk c19
              clear c19
              obtain ⟨y200, hy200⟩ : ∃ y_ : List ByteArray, y_ = (x7_1 ++ (rd_L1 t196 x10_1)) := ⟨_, rfl⟩
              replace H : (if x8_1 = true then (sennitlaw07_PickUnion.l0 k1 l0 t183 y200 true t196 (wrap64 (x10_1 + 1)) t185 t186 t189 t192) else ((sennitref01_Open.f (rd_L1 t196 x10_1)).bind fun t204 => (sennitlaw07_PickUnion.l0 k1 l0 t183 y200 t204 t196 (wrap64 (x10_1 + 1)) t185 t186 t189 t192))) = some r := by first | (rw [hy200]; with_reducible exact H) | (have H2_ := (Option.bind_some _ _).symm.trans H; rw [hy200]; with_reducible exact H2_) | (have H2_ := (Option.bind_some _ _).symm.trans H; with_reducible exact H2_) | with_reducible exact H | (rw [hy200]; exact H) | exact H
              have Ny200 := Aside0.mk hy200
              clear hy200
              by_cases c20 : x8_1 = true
              · subst c20
                have H1 : (sennitlaw07_PickUnion.l0 k1 l0 t183 y200 true t196 (wrap64 (x10_1 + 1)) t185 t186 t189 t192) = some r := by rw [if_pos rfl] at H; exact H
                clear H
                have H := H1
                clear H1
                have H' := Aside0.mk H
                clear H
                obtain ⟨Ao21, co21, eo21⟩ := Kd.N_slice HO_9.out
                subst eo21
                have p199 : 0 ≤ (x10_1 : Int) := of_decide_eq_true (by first | (with_reducible assumption) | assumption)
                have q199 : x10_1 < (t196.length : Int) := of_decide_eq_true (by first | (with_reducible assumption) | assumption)
                obtain ⟨ad199, A199_0, c199_0, e199, hx199_0, hl199_0, hi199_0⟩ := at_L1 (Kd.N_reads' HO_9.out).2.2 x10_1 p199 q199
                cases e199
                obtain ⟨ce199, hce199, hMe199, hcc199⟩ := Kd.N_get HO_9.out [] x10_1 p199 (by first | exact q199 | exact of_decide_eq_true (by first | (with_reducible assumption) | assumption) | (have e_ := (Kd.N_reads' HO_9.out).1; omega))
                obtain ⟨ua199_0, uc199_0, rfl, ul199_0, ge199_0⟩ := Kd.FK_slice_open hMe199
                have hv199_0 := hcc199 0 _ rfl
                rw [Nat.add_zero, show ((Kd.slice 9 Kd.string)).sz = 1 from rfl, Nat.mul_one] at hv199_0
                replace hv199_0 := Option.some.inj (hv199_0.symm.trans hx199_0)
                injection hv199_0 with hva_ hvn_ hvc_
                rw [hva_] at ge199_0
                rw [hvc_] at ul199_0
                have HL199_0 := Aside0.mk (show Kd.V Kd.string 9 _ w.heap.size _ _ (rd_L1 t196 x10_1) from Kd.V_mk ul199_0 ge199_0)
                clear hva_ hvn_ hvc_ ge199_0 ul199_0
                clear hcc199 hce199
                have HR199_0 := Aside0.mk hi199_0
                have HC199_0 := Aside0.mk hl199_0
                clear hi199_0 hl199_0
                replace p199 := eq_true p199
                replace q199 := eq_true q199
                go_wp2_with (first | ((with_reducible refine gate_builtin (b := .append) (xs := #[.tmp 30, .tmp 34]) rfl ?_); (try (refine gate_guard (by rfl) ?_; dsimp only)); at_builtin; refine Kd.R_append_rows Kd.string (w0 := w) w.heap.size rfl (.tmp 30) (.tmp 34) 22 9 (.string ⟨#[]⟩) 16 rfl Try.underlying22 info9 rfl (by decide) (by omega) u7 x7_1 (rd_L1 t196 x10_1) _ _ _ (fun _ => True) (fun _ => False) rfl rfl ?aO ?aR (fun _ _ h => h) (fun _ h => h.elim) ?aF ?aB ?aS ?aL ?_; (case aR => repeat (first | exact (by repeat (first | (with_reducible exact HR199_0.out) | (with_reducible refine Kd.C_alloc ?_ _) | (with_reducible refine Kd.C_drewN ?_ _) | (with_reducible refine Kd.C_drew ?_) | exact HR199_0.out)) | (with_reducible refine Kd.C_alloc ?_ _) | (with_reducible refine Kd.C_drewN ?_ _) | (with_reducible refine Kd.C_drew ?_))); (case aB => exact (by repeat (first | (with_reducible first | exact HB.out | apply below_alloc | apply pw_below_drewN | apply below_drew1 | refine below_set ?_ GE195.out) | exact HB.out))); (case aF => exact (fun _ _ => trivial)); (case aO => exact (by (with_reducible repeat (first | apply Kd.R_alloc | apply Kd.R_drewN | apply Kd.R_drew)); exact HO_7.out)); (case aS => exact (below_size (by repeat (first | (with_reducible first | exact HB.out | apply below_alloc | apply pw_below_drewN | apply below_drew1 | refine below_set ?_ GE195.out) | exact HB.out)))); (case aL => have := LMc19.out; omega); intro v201 w22 ho hb hg hat; rw [← Ny200.out] at ho; have n0_ := Aside0.mk (Kd.N_afterv (ok := (fun k_ => k_ ≠ gb195)) (by (with_reducible repeat (first | apply Kd.N_alloc | apply Kd.N_drewN | apply Kd.N_drew)); exact Kd.N_mono HO_9.out (fun _ hk => ⟨hk.2, hk.1⟩)) hg hat); have n1_ := Aside0.mk (Kd.V_afterv (ok := (fun k_ => some k_ ≠ (.slice (some ad199) t196.length co21 : Value).ownBlock ∧ k_ ≠ gb195)) (by (with_reducible repeat (first | apply Kd.V_alloc | apply Kd.V_drewN | apply Kd.V_drew)); exact Kd.V_mono HO_196001.out (fun _ hk => ⟨⟨hk.2.1, hk.2.2⟩, hk.1⟩)) hg hat); have n2_ := Aside0.mk (Kd.V_afterv (ok := (fun k_ => some k_ ≠ (.slice (some ad199) t196.length co21 : Value).ownBlock ∧ k_ ≠ gb195)) (by (with_reducible repeat (first | apply Kd.V_alloc | apply Kd.V_drewN | apply Kd.V_drew)); exact Kd.V_mono HO_196002.out (fun _ hk => ⟨⟨hk.2.1, hk.2.2⟩, hk.1⟩)) hg hat); have n3_ := Aside0.mk (Kd.V_afterv (ok := (fun k_ => some k_ ≠ (.slice (some ad199) t196.length co21 : Value).ownBlock ∧ k_ ≠ gb195)) (by (with_reducible repeat (first | apply Kd.V_alloc | apply Kd.V_drewN | apply Kd.V_drew)); exact Kd.V_mono HO_196003.out (fun _ hk => ⟨⟨hk.2.1, hk.2.2⟩, hk.1⟩)) hg hat); have n4_ := Aside0.mk (blk_grown (g := gb195) (o := .cells #[.bool t185, .slice Ao12 t186.length co12, .slice Ao13 t189.length co13, .slice Ao14 t192.length co14] 27 (0, 0)) (by (with_reducible repeat (first | refine blk_drewN ?_ _ | refine blk_drew ?_ | refine blk_alloc ?_ _)); exact BK195.out) hg (Kd.R_ne HO_7.out BK195.out (by decide))); have n5_ := Aside0.mk (Kd.V_afterv (ok := (fun k_ => some k_ ≠ (.slice (some ad199) t196.length co21 : Value).ownBlock ∧ k_ ≠ gb195)) (by (with_reducible repeat (first | apply Kd.V_alloc | apply Kd.V_drewN | apply Kd.V_drew)); exact Kd.V_mono HL199_0.out (fun _ hk => ⟨⟨hk.2, hk.1.2⟩, hk.1.1⟩)) hg hat); have n6_ := Aside0.mk (hb); have n7_ := Aside0.mk (ho); clear HO_9; clear HO_196001; clear HO_196002; clear HO_196003; clear BK195; clear HL199_0; clear HB; clear HO_7; have HO_9 := n0_; have HO_196001 := n1_; have HO_196002 := n2_; have HO_196003 := n3_; have BK195 := n4_; have HL199_0 := n5_; have HB := n6_; have HO202 := n7_; clear n0_ n1_ n2_ n3_ n4_ n5_ n6_ n7_; clear ho hb hg hat))
                go_roundg k1
                case measure => have := HK1.out; omega
                case rel => exact ⟨(y200), (true), (wrap64 (x10_1 + 1)), (by first | rfl | (simp; done) | (simp [*]; done)), (by first | rfl | (simp; done) | (simp [*]; done)), H', ⟨by have := HK1.out; omega⟩, ⟨by (with_reducible repeat (first | apply Kd.R_alloc | apply Kd.R_drewN | apply Kd.R_drew)); exact HO202.out⟩, ⟨by (with_reducible repeat (first | apply Kd.N_alloc | apply Kd.N_drewN | apply Kd.N_drew)); exact Kd.N_mono HO_9.out (fun _ hk => ⟨hk.2, hk.1⟩)⟩, ⟨by (with_reducible repeat (first | apply Kd.V_alloc | apply Kd.V_drewN | apply Kd.V_drew)); exact Kd.V_mono HO_196001.out (fun _ hk => ⟨hk.2, ⟨hk.1.1, hk.1.2⟩⟩)⟩, ⟨by (with_reducible repeat (first | apply Kd.V_alloc | apply Kd.V_drewN | apply Kd.V_drew)); exact Kd.V_mono HO_196002.out (fun _ hk => ⟨hk.2, ⟨hk.1.1, hk.1.2⟩⟩)⟩, ⟨by (with_reducible repeat (first | apply Kd.V_alloc | apply Kd.V_drewN | apply Kd.V_drew)); exact Kd.V_mono HO_196003.out (fun _ hk => ⟨hk.2, ⟨hk.1.1, hk.1.2⟩⟩)⟩, ⟨by (with_reducible repeat (first | refine blk_drewN ?_ _ | refine blk_drew ?_ | refine blk_alloc ?_ _)); exact BK195.out⟩, ⟨by repeat (first | (with_reducible first | exact HB.out | apply below_alloc | apply pw_below_drewN | apply below_drew1 | refine below_set ?_ GE195.out) | exact HB.out)⟩⟩
              · replace c20 := Bool.eq_false_iff.mpr c20
                subst c20
                have H1 : ((sennitref01_Open.f (rd_L1 t196 x10_1)).bind fun t204 => (sennitlaw07_PickUnion.l0 k1 l0 t183 y200 t204 t196 (wrap64 (x10_1 + 1)) t185 t186 t189 t192)) = some r := by rw [if_neg (show ¬ (false = true) by decide)] at H; exact H
                clear H
                have H := H1
                clear H1
                replace H := Option.bind_eq_some_iff.mp H
                obtain ⟨t204, A230, H⟩ := H
                replace H : (sennitlaw07_PickUnion.l0 k1 l0 t183 y200 t204 t196 (wrap64 (x10_1 + 1)) t185 t186 t189 t192) = some r := H
                have A23 := Aside0.mk A230
                clear A230
                have H' := Aside0.mk H
                clear H
                obtain ⟨Ao24, co24, eo24⟩ := Kd.N_slice HO_9.out
                subst eo24
                have p199 : 0 ≤ (x10_1 : Int) := of_decide_eq_true (by first | (with_reducible assumption) | assumption)
                have q199 : x10_1 < (t196.length : Int) := of_decide_eq_true (by first | (with_reducible assumption) | assumption)
                obtain ⟨ad199, A199_0, c199_0, e199, hx199_0, hl199_0, hi199_0⟩ := at_L1 (Kd.N_reads' HO_9.out).2.2 x10_1 p199 q199
                cases e199
                obtain ⟨ce199, hce199, hMe199, hcc199⟩ := Kd.N_get HO_9.out [] x10_1 p199 (by first | exact q199 | exact of_decide_eq_true (by first | (with_reducible assumption) | assumption) | (have e_ := (Kd.N_reads' HO_9.out).1; omega))
                obtain ⟨ua199_0, uc199_0, rfl, ul199_0, ge199_0⟩ := Kd.FK_slice_open hMe199
                have hv199_0 := hcc199 0 _ rfl
                rw [Nat.add_zero, show ((Kd.slice 9 Kd.string)).sz = 1 from rfl, Nat.mul_one] at hv199_0
                replace hv199_0 := Option.some.inj (hv199_0.symm.trans hx199_0)
                injection hv199_0 with hva_ hvn_ hvc_
                rw [hva_] at ge199_0
                rw [hvc_] at ul199_0
                have HL199_0 := Aside0.mk (show Kd.V Kd.string 9 _ w.heap.size _ _ (rd_L1 t196 x10_1) from Kd.V_mk ul199_0 ge199_0)
                clear hva_ hvn_ hvc_ ge199_0 ul199_0
                clear hcc199 hce199
                have HR199_0 := Aside0.mk hi199_0
                have HC199_0 := Aside0.mk hl199_0
                clear hi199_0 hl199_0
                replace p199 := eq_true p199
                replace q199 := eq_true q199
                go_wp2_with (first | ((with_reducible refine gate_builtin (b := .append) (xs := #[.tmp 30, .tmp 34]) rfl ?_); (try (refine gate_guard (by rfl) ?_; dsimp only)); at_builtin; refine Kd.R_append_rows Kd.string (w0 := w) w.heap.size rfl (.tmp 30) (.tmp 34) 22 9 (.string ⟨#[]⟩) 16 rfl Try.underlying22 info9 rfl (by decide) (by omega) u7 x7_1 (rd_L1 t196 x10_1) _ _ _ (fun _ => True) (fun _ => False) rfl rfl ?aO ?aR (fun _ _ h => h) (fun _ h => h.elim) ?aF ?aB ?aS ?aL ?_; (case aR => repeat (first | exact (by repeat (first | (with_reducible exact HR199_0.out) | (with_reducible refine Kd.C_alloc ?_ _) | (with_reducible refine Kd.C_drewN ?_ _) | (with_reducible refine Kd.C_drew ?_) | exact HR199_0.out)) | (with_reducible refine Kd.C_alloc ?_ _) | (with_reducible refine Kd.C_drewN ?_ _) | (with_reducible refine Kd.C_drew ?_))); (case aB => exact (by repeat (first | (with_reducible first | exact HB.out | apply below_alloc | apply pw_below_drewN | apply below_drew1 | refine below_set ?_ GE195.out) | exact HB.out))); (case aF => exact (fun _ _ => trivial)); (case aO => exact (by (with_reducible repeat (first | apply Kd.R_alloc | apply Kd.R_drewN | apply Kd.R_drew)); exact HO_7.out)); (case aS => exact (below_size (by repeat (first | (with_reducible first | exact HB.out | apply below_alloc | apply pw_below_drewN | apply below_drew1 | refine below_set ?_ GE195.out) | exact HB.out)))); (case aL => have := LMc19.out; omega); intro v201 w25 ho hb hg hat; rw [← Ny200.out] at ho; have n0_ := Aside0.mk (Kd.N_afterv (ok := (fun k_ => k_ ≠ gb195)) (by (with_reducible repeat (first | apply Kd.N_alloc | apply Kd.N_drewN | apply Kd.N_drew)); exact Kd.N_mono HO_9.out (fun _ hk => ⟨hk.2, hk.1⟩)) hg hat); have n1_ := Aside0.mk (Kd.V_afterv (ok := (fun k_ => some k_ ≠ (.slice (some ad199) t196.length co24 : Value).ownBlock ∧ k_ ≠ gb195)) (by (with_reducible repeat (first | apply Kd.V_alloc | apply Kd.V_drewN | apply Kd.V_drew)); exact Kd.V_mono HO_196001.out (fun _ hk => ⟨⟨hk.2.1, hk.2.2⟩, hk.1⟩)) hg hat); have n2_ := Aside0.mk (Kd.V_afterv (ok := (fun k_ => some k_ ≠ (.slice (some ad199) t196.length co24 : Value).ownBlock ∧ k_ ≠ gb195)) (by (with_reducible repeat (first | apply Kd.V_alloc | apply Kd.V_drewN | apply Kd.V_drew)); exact Kd.V_mono HO_196002.out (fun _ hk => ⟨⟨hk.2.1, hk.2.2⟩, hk.1⟩)) hg hat); have n3_ := Aside0.mk (Kd.V_afterv (ok := (fun k_ => some k_ ≠ (.slice (some ad199) t196.length co24 : Value).ownBlock ∧ k_ ≠ gb195)) (by (with_reducible repeat (first | apply Kd.V_alloc | apply Kd.V_drewN | apply Kd.V_drew)); exact Kd.V_mono HO_196003.out (fun _ hk => ⟨⟨hk.2.1, hk.2.2⟩, hk.1⟩)) hg hat); have n4_ := Aside0.mk (blk_grown (g := gb195) (o := .cells #[.bool t185, .slice Ao12 t186.length co12, .slice Ao13 t189.length co13, .slice Ao14 t192.length co14] 27 (0, 0)) (by (with_reducible repeat (first | refine blk_drewN ?_ _ | refine blk_drew ?_ | refine blk_alloc ?_ _)); exact BK195.out) hg (Kd.R_ne HO_7.out BK195.out (by decide))); have n5_ := Aside0.mk (Kd.V_afterv (ok := (fun k_ => some k_ ≠ (.slice (some ad199) t196.length co24 : Value).ownBlock ∧ k_ ≠ gb195)) (by (with_reducible repeat (first | apply Kd.V_alloc | apply Kd.V_drewN | apply Kd.V_drew)); exact Kd.V_mono HL199_0.out (fun _ hk => ⟨⟨hk.2, hk.1.2⟩, hk.1.1⟩)) hg hat); have n6_ := Aside0.mk (hb); have n7_ := Aside0.mk (ho); clear HO_9; clear HO_196001; clear HO_196002; clear HO_196003; clear BK195; clear HL199_0; clear HB; clear HO_7; have HO_9 := n0_; have HO_196001 := n1_; have HO_196002 := n2_; have HO_196003 := n3_; have BK195 := n4_; have HL199_0 := n5_; have HB := n6_; have HO202 := n7_; clear n0_ n1_ n2_ n3_ n4_ n5_ n6_ n7_; clear ho hb hg hat; have p203 : 0 ≤ (x10_1 : Int) := of_decide_eq_true (by first | (with_reducible assumption) | assumption); have q203 : x10_1 < (t196.length : Int) := of_decide_eq_true (by first | (with_reducible assumption) | assumption); obtain ⟨ad203, A203_0, c203_0, e203, hx203_0, hl203_0, hi203_0⟩ := at_L1 (Kd.N_reads' HO_9.out).2.2 x10_1 p203 q203; obtain rfl : ad199 = ad203 := (by injection e203); obtain ⟨ce203, hce203, hMe203, hcc203⟩ := Kd.N_get HO_9.out [] x10_1 p203 (by first | exact q203 | exact of_decide_eq_true (by first | (with_reducible assumption) | assumption) | (have e_ := (Kd.N_reads' HO_9.out).1; omega)); obtain ⟨ua203_0, uc203_0, rfl, ul203_0, ge203_0⟩ := Kd.FK_slice_open hMe203; have hv203_0 := hcc203 0 _ rfl; rw [Nat.add_zero, show ((Kd.slice 9 Kd.string)).sz = 1 from rfl, Nat.mul_one] at hv203_0; replace hv203_0 := Option.some.inj (hv203_0.symm.trans hx203_0); injection hv203_0 with hva_ hvn_ hvc_; rw [hva_] at ge203_0; rw [hvc_] at ul203_0; have HL203_0 := Aside0.mk (show Kd.V Kd.string 9 _ w.heap.size _ _ (rd_L1 t196 x10_1) from Kd.V_mk ul203_0 ge203_0); clear hva_ hvn_ hvc_ ge203_0 ul203_0; clear hcc203 hce203; have HR203_0 := Aside0.mk hi203_0; have HC203_0 := Aside0.mk hl203_0; clear hi203_0 hl203_0; replace p203 := eq_true p203; replace q203 := eq_true q203) | (go_at_call 23; (with_reducible refine (sennitref01_Open.calls _ _ (rd_L1 t196 x10_1) t204 _ ?side1 ?side2 A23.out).mono ?_); (case side1 => repeat (first | exact (by repeat (first | (with_reducible exact HR203_0.out) | (with_reducible refine Kd.C_alloc ?_ _) | (with_reducible refine Kd.C_drewN ?_ _) | (with_reducible refine Kd.C_drew ?_) | exact HR203_0.out)) | (with_reducible refine Kd.C_alloc ?_ _) | (with_reducible refine Kd.C_drewN ?_ _) | (with_reducible refine Kd.C_drew ?_))); (case side2 => exact HC203_0.out); rintro e w' ⟨rfl, ⟨nd, rfl⟩⟩))
                go_roundg k1
                case measure => have := HK1.out; omega
                case rel => exact ⟨(y200), (t204), (wrap64 (x10_1 + 1)), (by first | rfl | (simp; done) | (simp [*]; done)), (by first | rfl | (simp; done) | (simp [*]; done)), H', ⟨by have := HK1.out; omega⟩, ⟨by (with_reducible repeat (first | apply Kd.R_alloc | apply Kd.R_drewN | apply Kd.R_drew)); exact HO202.out⟩, ⟨by (with_reducible repeat (first | apply Kd.N_alloc | apply Kd.N_drewN | apply Kd.N_drew)); exact Kd.N_mono HO_9.out (fun _ hk => ⟨hk.2, hk.1⟩)⟩, ⟨by (with_reducible repeat (first | apply Kd.V_alloc | apply Kd.V_drewN | apply Kd.V_drew)); exact Kd.V_mono HO_196001.out (fun _ hk => ⟨hk.2, ⟨hk.1.1, hk.1.2⟩⟩)⟩, ⟨by (with_reducible repeat (first | apply Kd.V_alloc | apply Kd.V_drewN | apply Kd.V_drew)); exact Kd.V_mono HO_196002.out (fun _ hk => ⟨hk.2, ⟨hk.1.1, hk.1.2⟩⟩)⟩, ⟨by (with_reducible repeat (first | apply Kd.V_alloc | apply Kd.V_drewN | apply Kd.V_drew)); exact Kd.V_mono HO_196003.out (fun _ hk => ⟨hk.2, ⟨hk.1.1, hk.1.2⟩⟩)⟩, ⟨by (with_reducible repeat (first | refine blk_drewN ?_ _ | refine blk_drew ?_ | refine blk_alloc ?_ _)); exact BK195.out⟩, ⟨by repeat (first | (with_reducible first | exact HB.out | apply below_alloc | apply pw_below_drewN | apply below_drew1 | refine below_set ?_ GE195.out) | exact HB.out)⟩⟩
            · rw [if_neg c19] at H
              exact absurd H (by simp)
          · rw [if_neg c18] at H
            exact absurd H (by simp)
        · rw [if_neg c17] at H
          have c17b0 : decide (x10_1 < (t196.length : Int)) = false := decide_eq_false c17
          clear c17
          by_cases c26 : (t196.length : Int) = 0
          · rw [if_pos c26] at H
            have c26b0 : ((t196.length : Int) == 0) = true := beq_iff_eq.mpr c26
            have c26b1 : ((t196.length : Int) != 0) = false := bne_eq_false_iff_eq.mpr c26
            clear c26
            by_cases c27 : t183 = true
            · subst c27
              have H1 : (if t185 = true then (some false) else (if (t186.length : Int) = (l0.length : Int) then (if x8_1 = true then (some true) else ((sennitref01_Same.f k1 t186 l0).bind fun t205 => (some t205))) else (some false))) = some r := by rw [if_pos rfl] at H; exact H
              clear H
              have H := H1
              clear H1
              by_cases c28 : t185 = true
              · subst c28
                have H1 : (some false) = some r := by rw [if_pos rfl] at H; exact H
                clear H
                have H := H1
                clear H1
                obtain rfl := Option.some.inj H
                obtain ⟨Ao29, co29, eo29⟩ := Kd.N_slice HO_9.out
                subst eo29
                have hcz30_0 : wr.cell? ⟨gb195, 0, none⟩ = some (.bool true) := (blk_cell BK195.out 0).trans rfl
                have hcz30_1 : wr.cell? ⟨gb195, 1, none⟩ = some (.slice Ao12 t186.length co12) := (blk_cell BK195.out 1).trans rfl
                have hcz30_2 : wr.cell? ⟨gb195, 2, none⟩ = some (.slice Ao13 t189.length co13) := (blk_cell BK195.out 2).trans rfl
                have hcz30_3 : wr.cell? ⟨gb195, 3, none⟩ = some (.slice Ao14 t192.length co14) := (blk_cell BK195.out 3).trans rfl
                have hfz30_0 := blk_frozen BK195.out 0
                have hfz30_1 := blk_frozen BK195.out 1
                have hfz30_2 := blk_frozen BK195.out 2
                have hfz30_3 := blk_frozen BK195.out 3
                go_wp2
                go_ret
                exact ⟨by first | rfl | (simp [errW_none, errW_some] <;> rfl) | (simp [*, errW_none, errW_some] <;> rfl), by repeat (first | (with_reducible first | exact HB.out | apply below_alloc | apply pw_below_drewN | apply below_drew1 | refine below_set ?_ GE195.out) | exact HB.out)⟩
              · replace c28 := Bool.eq_false_iff.mpr c28
                subst c28
                have H1 : (if (t186.length : Int) = (l0.length : Int) then (if x8_1 = true then (some true) else ((sennitref01_Same.f k1 t186 l0).bind fun t205 => (some t205))) else (some false)) = some r := by rw [if_neg (show ¬ (false = true) by decide)] at H; exact H
                clear H
                have H := H1
                clear H1
                by_cases c31 : (t186.length : Int) = (l0.length : Int)
                · rw [if_pos c31] at H
                  have c31b0 : ((t186.length : Int) == (l0.length : Int)) = true := beq_iff_eq.mpr c31
                  have c31b1 : ((t186.length : Int) != (l0.length : Int)) = false := bne_eq_false_iff_eq.mpr c31
                  have c31b2 : (t186.length == l0.length) = true := by first | simpa using c31 | (simp at c31 ⊢; omega)
                  clear c31
                  by_cases c32 : x8_1 = true
                  · subst c32
                    have H1 : (some true) = some r := by rw [if_pos rfl] at H; exact H
                    clear H
                    have H := H1
                    clear H1
                    obtain rfl := Option.some.inj H
                    obtain ⟨Ao33, co33, eo33⟩ := Kd.N_slice HO_9.out
                    subst eo33
                    have hcz34_0 : wr.cell? ⟨gb195, 0, none⟩ = some (.bool false) := (blk_cell BK195.out 0).trans rfl
                    have hcz34_1 : wr.cell? ⟨gb195, 1, none⟩ = some (.slice Ao12 t186.length co12) := (blk_cell BK195.out 1).trans rfl
                    have hcz34_2 : wr.cell? ⟨gb195, 2, none⟩ = some (.slice Ao13 t189.length co13) := (blk_cell BK195.out 2).trans rfl
                    have hcz34_3 : wr.cell? ⟨gb195, 3, none⟩ = some (.slice Ao14 t192.length co14) := (blk_cell BK195.out 3).trans rfl
                    have hfz34_0 := blk_frozen BK195.out 0
                    have hfz34_1 := blk_frozen BK195.out 1
                    have hfz34_2 := blk_frozen BK195.out 2
                    have hfz34_3 := blk_frozen BK195.out 3
                    go_wp2
                    go_ret
                    exact ⟨by first | rfl | (simp [errW_none, errW_some] <;> rfl) | (simp [*, errW_none, errW_some] <;> rfl), by repeat (first | (with_reducible first | exact HB.out | apply below_alloc | apply pw_below_drewN | apply below_drew1 | refine below_set ?_ GE195.out) | exact HB.out)⟩
                  · replace c32 := Bool.eq_false_iff.mpr c32
                    subst c32
                    have H1 : ((sennitref01_Same.f k1 t186 l0).bind fun t205 => (some t205)) = some r := by rw [if_neg (show ¬ (false = true) by decide)] at H; exact H
                    clear H
                    have H := H1
                    clear H1
                    replace H := Option.bind_eq_some_iff.mp H
                    obtain ⟨t205, A350, H⟩ := H
                    replace H : (some t205) = some r := H
                    have A35 := Aside0.mk A350
                    clear A350
                    obtain rfl := Option.some.inj H
                    obtain ⟨Ao36, co36, eo36⟩ := Kd.N_slice HO_9.out
                    subst eo36
                    have hcz37_0 : wr.cell? ⟨gb195, 0, none⟩ = some (.bool false) := (blk_cell BK195.out 0).trans rfl
                    have hcz37_1 : wr.cell? ⟨gb195, 1, none⟩ = some (.slice Ao12 t186.length co12) := (blk_cell BK195.out 1).trans rfl
                    have hcz37_2 : wr.cell? ⟨gb195, 2, none⟩ = some (.slice Ao13 t189.length co13) := (blk_cell BK195.out 2).trans rfl
                    have hcz37_3 : wr.cell? ⟨gb195, 3, none⟩ = some (.slice Ao14 t192.length co14) := (blk_cell BK195.out 3).trans rfl
                    have hfz37_0 := blk_frozen BK195.out 0
                    have hfz37_1 := blk_frozen BK195.out 1
                    have hfz37_2 := blk_frozen BK195.out 2
                    have hfz37_3 := blk_frozen BK195.out 3
                    go_wp2_with (first | (go_at_call 24; (with_reducible refine (sennitref01_Same.calls k1 _ _ t186 _ _ l0 t205 _ ?side1 ?side2 ?side3 ?side4 A35.out).mono ?_); (case side1 => repeat (first | exact (Kd.V_reads' HO_196001.out).2.2 | (with_reducible refine Kd.C_alloc ?_ _) | (with_reducible refine Kd.C_drewN ?_ _) | (with_reducible refine Kd.C_drew ?_))); (case side2 => exact (Kd.V_reads' HO_196001.out).2.1); (case side3 => repeat (first | exact (Kd.C_below HR0.out HB.out) | (with_reducible refine Kd.C_alloc ?_ _) | (with_reducible refine Kd.C_drewN ?_ _) | (with_reducible refine Kd.C_drew ?_))); (case side4 => exact HC0.out); rintro e w' ⟨rfl, ⟨nd, rfl⟩⟩))
                    go_ret
                    exact ⟨by first | rfl | (simp [errW_none, errW_some] <;> rfl) | (simp [*, errW_none, errW_some] <;> rfl), by repeat (first | (with_reducible first | exact HB.out | apply below_alloc | apply pw_below_drewN | apply below_drew1 | refine below_set ?_ GE195.out) | exact HB.out)⟩
                · rw [if_neg c31] at H
                  have c31b0 : ((t186.length : Int) == (l0.length : Int)) = false := beq_eq_false_iff_ne.mpr c31
                  have c31b1 : ((t186.length : Int) != (l0.length : Int)) = true := bne_iff_ne.mpr c31
                  have c31b2 : (t186.length == l0.length) = false := by first | simpa using c31 | (simp at c31 ⊢; omega)
                  obtain rfl := Option.some.inj H
                  obtain ⟨Ao38, co38, eo38⟩ := Kd.N_slice HO_9.out
                  subst eo38
                  have hcz39_0 : wr.cell? ⟨gb195, 0, none⟩ = some (.bool false) := (blk_cell BK195.out 0).trans rfl
                  have hcz39_1 : wr.cell? ⟨gb195, 1, none⟩ = some (.slice Ao12 t186.length co12) := (blk_cell BK195.out 1).trans rfl
                  have hcz39_2 : wr.cell? ⟨gb195, 2, none⟩ = some (.slice Ao13 t189.length co13) := (blk_cell BK195.out 2).trans rfl
                  have hcz39_3 : wr.cell? ⟨gb195, 3, none⟩ = some (.slice Ao14 t192.length co14) := (blk_cell BK195.out 3).trans rfl
                  have hfz39_0 := blk_frozen BK195.out 0
                  have hfz39_1 := blk_frozen BK195.out 1
                  have hfz39_2 := blk_frozen BK195.out 2
                  have hfz39_3 := blk_frozen BK195.out 3
                  go_wp2
                  go_ret
                  exact ⟨by first | rfl | (simp [errW_none, errW_some] <;> rfl) | (simp [*, errW_none, errW_some] <;> rfl), by repeat (first | (with_reducible first | exact HB.out | apply below_alloc | apply pw_below_drewN | apply below_drew1 | refine below_set ?_ GE195.out) | exact HB.out)⟩
            · replace c27 := Bool.eq_false_iff.mpr c27
              subst c27
              have H1 : (some false) = some r := by rw [if_neg (show ¬ (false = true) by decide)] at H; exact H
              clear H
              have H := H1
              clear H1
              obtain rfl := Option.some.inj H
              obtain ⟨Ao40, co40, eo40⟩ := Kd.N_slice HO_9.out
              subst eo40
              go_wp2
              go_ret
              exact ⟨by first | rfl | (simp [errW_none, errW_some] <;> rfl) | (simp [*, errW_none, errW_some] <;> rfl), by repeat (first | (with_reducible first | exact HB.out | apply below_alloc | apply pw_below_drewN | apply below_drew1 | refine below_set ?_ GE195.out) | exact HB.out)⟩
          · rw [if_neg c26] at H
            have c26b0 : ((t196.length : Int) == 0) = false := beq_eq_false_iff_ne.mpr c26
            have c26b1 : ((t196.length : Int) != 0) = true := bne_iff_ne.mpr c26
            have c26b2 : ¬ (t196 = []) := fun h_ => c26 (by rw [h_]; rfl)
            by_cases c41 : t183 = true
            · subst c41
              have H1 : (if t185 = true then (some false) else (if (t186.length : Int) = (x7_1.length : Int) then (if x8_1 = true then (some true) else ((sennitref01_Same.f k1 t186 x7_1).bind fun t206 => (some t206))) else (some false))) = some r := by rw [if_pos rfl] at H; exact H
              clear H
              have H := H1
              clear H1
              by_cases c42 : t185 = true
              · subst c42
                have H1 : (some false) = some r := by rw [if_pos rfl] at H; exact H
                clear H
                have H := H1
                clear H1
                obtain rfl := Option.some.inj H
                obtain ⟨Ao43, co43, eo43⟩ := Kd.N_slice HO_9.out
                subst eo43
                have hcz44_0 : wr.cell? ⟨gb195, 0, none⟩ = some (.bool true) := (blk_cell BK195.out 0).trans rfl
                have hcz44_1 : wr.cell? ⟨gb195, 1, none⟩ = some (.slice Ao12 t186.length co12) := (blk_cell BK195.out 1).trans rfl
                have hcz44_2 : wr.cell? ⟨gb195, 2, none⟩ = some (.slice Ao13 t189.length co13) := (blk_cell BK195.out 2).trans rfl
                have hcz44_3 : wr.cell? ⟨gb195, 3, none⟩ = some (.slice Ao14 t192.length co14) := (blk_cell BK195.out 3).trans rfl
                have hfz44_0 := blk_frozen BK195.out 0
                have hfz44_1 := blk_frozen BK195.out 1
                have hfz44_2 := blk_frozen BK195.out 2
                have hfz44_3 := blk_frozen BK195.out 3
                go_wp2
                go_ret
                exact ⟨by first | rfl | (simp [errW_none, errW_some] <;> rfl) | (simp [*, errW_none, errW_some] <;> rfl), by repeat (first | (with_reducible first | exact HB.out | apply below_alloc | apply pw_below_drewN | apply below_drew1 | refine below_set ?_ GE195.out) | exact HB.out)⟩
              · replace c42 := Bool.eq_false_iff.mpr c42
                subst c42
                have H1 : (if (t186.length : Int) = (x7_1.length : Int) then (if x8_1 = true then (some true) else ((sennitref01_Same.f k1 t186 x7_1).bind fun t206 => (some t206))) else (some false)) = some r := by rw [if_neg (show ¬ (false = true) by decide)] at H; exact H
                clear H
                have H := H1
                clear H1
                by_cases c45 : (t186.length : Int) = (x7_1.length : Int)
                · rw [if_pos c45] at H
                  have c45b0 : ((t186.length : Int) == (x7_1.length : Int)) = true := beq_iff_eq.mpr c45
                  have c45b1 : ((t186.length : Int) != (x7_1.length : Int)) = false := bne_eq_false_iff_eq.mpr c45
                  have c45b2 : (t186.length == x7_1.length) = true := by first | simpa using c45 | (simp at c45 ⊢; omega)
                  clear c45
                  by_cases c46 : x8_1 = true
                  · subst c46
                    have H1 : (some true) = some r := by rw [if_pos rfl] at H; exact H
                    clear H
                    have H := H1
                    clear H1
                    obtain rfl := Option.some.inj H
                    obtain ⟨Ao47, co47, eo47⟩ := Kd.N_slice HO_9.out
                    subst eo47
                    have hcz48_0 : wr.cell? ⟨gb195, 0, none⟩ = some (.bool false) := (blk_cell BK195.out 0).trans rfl
                    have hcz48_1 : wr.cell? ⟨gb195, 1, none⟩ = some (.slice Ao12 t186.length co12) := (blk_cell BK195.out 1).trans rfl
                    have hcz48_2 : wr.cell? ⟨gb195, 2, none⟩ = some (.slice Ao13 t189.length co13) := (blk_cell BK195.out 2).trans rfl
                    have hcz48_3 : wr.cell? ⟨gb195, 3, none⟩ = some (.slice Ao14 t192.length co14) := (blk_cell BK195.out 3).trans rfl
                    have hfz48_0 := blk_frozen BK195.out 0
                    have hfz48_1 := blk_frozen BK195.out 1
                    have hfz48_2 := blk_frozen BK195.out 2
                    have hfz48_3 := blk_frozen BK195.out 3
                    obtain ⟨Ao49, co49, eo49⟩ := Kd.R_slice HO_7.out
                    subst eo49
                    go_wp2
                    go_ret
                    exact ⟨by first | rfl | (simp [errW_none, errW_some] <;> rfl) | (simp [*, errW_none, errW_some] <;> rfl), by repeat (first | (with_reducible first | exact HB.out | apply below_alloc | apply pw_below_drewN | apply below_drew1 | refine below_set ?_ GE195.out) | exact HB.out)⟩
                  · replace c46 := Bool.eq_false_iff.mpr c46
                    subst c46
                    have H1 : ((sennitref01_Same.f k1 t186 x7_1).bind fun t206 => (some t206)) = some r := by rw [if_neg (show ¬ (false = true) by decide)] at H; exact H
                    clear H
                    have H := H1
                    clear H1
                    replace H := Option.bind_eq_some_iff.mp H
                    obtain ⟨t206, A500, H⟩ := H
                    replace H : (some t206) = some r := H
                    have A50 := Aside0.mk A500
                    clear A500
                    obtain rfl := Option.some.inj H
                    obtain ⟨Ao51, co51, eo51⟩ := Kd.N_slice HO_9.out
                    subst eo51
                    have hcz52_0 : wr.cell? ⟨gb195, 0, none⟩ = some (.bool false) := (blk_cell BK195.out 0).trans rfl
                    have hcz52_1 : wr.cell? ⟨gb195, 1, none⟩ = some (.slice Ao12 t186.length co12) := (blk_cell BK195.out 1).trans rfl
                    have hcz52_2 : wr.cell? ⟨gb195, 2, none⟩ = some (.slice Ao13 t189.length co13) := (blk_cell BK195.out 2).trans rfl
                    have hcz52_3 : wr.cell? ⟨gb195, 3, none⟩ = some (.slice Ao14 t192.length co14) := (blk_cell BK195.out 3).trans rfl
                    have hfz52_0 := blk_frozen BK195.out 0
                    have hfz52_1 := blk_frozen BK195.out 1
                    have hfz52_2 := blk_frozen BK195.out 2
                    have hfz52_3 := blk_frozen BK195.out 3
                    obtain ⟨Ao53, co53, eo53⟩ := Kd.R_slice HO_7.out
                    subst eo53
                    go_wp2_with (first | (go_at_call 24; (with_reducible refine (sennitref01_Same.calls k1 _ _ t186 _ _ x7_1 t206 _ ?side1 ?side2 ?side3 ?side4 A50.out).mono ?_); (case side1 => repeat (first | exact (Kd.V_reads' HO_196001.out).2.2 | (with_reducible refine Kd.C_alloc ?_ _) | (with_reducible refine Kd.C_drewN ?_ _) | (with_reducible refine Kd.C_drew ?_))); (case side2 => exact (Kd.V_reads' HO_196001.out).2.1); (case side3 => repeat (first | exact (Kd.R_reads' HO_7.out).2.2 | (with_reducible refine Kd.C_alloc ?_ _) | (with_reducible refine Kd.C_drewN ?_ _) | (with_reducible refine Kd.C_drew ?_))); (case side4 => exact (Kd.R_reads' HO_7.out).2.1); rintro e w' ⟨rfl, ⟨nd, rfl⟩⟩))
                    go_ret
                    exact ⟨by first | rfl | (simp [errW_none, errW_some] <;> rfl) | (simp [*, errW_none, errW_some] <;> rfl), by repeat (first | (with_reducible first | exact HB.out | apply below_alloc | apply pw_below_drewN | apply below_drew1 | refine below_set ?_ GE195.out) | exact HB.out)⟩
                · rw [if_neg c45] at H
                  have c45b0 : ((t186.length : Int) == (x7_1.length : Int)) = false := beq_eq_false_iff_ne.mpr c45
                  have c45b1 : ((t186.length : Int) != (x7_1.length : Int)) = true := bne_iff_ne.mpr c45
                  have c45b2 : (t186.length == x7_1.length) = false := by first | simpa using c45 | (simp at c45 ⊢; omega)
                  obtain rfl := Option.some.inj H
                  obtain ⟨Ao54, co54, eo54⟩ := Kd.N_slice HO_9.out
                  subst eo54
                  have hcz55_0 : wr.cell? ⟨gb195, 0, none⟩ = some (.bool false) := (blk_cell BK195.out 0).trans rfl
                  have hcz55_1 : wr.cell? ⟨gb195, 1, none⟩ = some (.slice Ao12 t186.length co12) := (blk_cell BK195.out 1).trans rfl
                  have hcz55_2 : wr.cell? ⟨gb195, 2, none⟩ = some (.slice Ao13 t189.length co13) := (blk_cell BK195.out 2).trans rfl
                  have hcz55_3 : wr.cell? ⟨gb195, 3, none⟩ = some (.slice Ao14 t192.length co14) := (blk_cell BK195.out 3).trans rfl
                  have hfz55_0 := blk_frozen BK195.out 0
                  have hfz55_1 := blk_frozen BK195.out 1
                  have hfz55_2 := blk_frozen BK195.out 2
                  have hfz55_3 := blk_frozen BK195.out 3
                  obtain ⟨Ao56, co56, eo56⟩ := Kd.R_slice HO_7.out
                  subst eo56
                  go_wp2
                  go_ret
                  exact ⟨by first | rfl | (simp [errW_none, errW_some] <;> rfl) | (simp [*, errW_none, errW_some] <;> rfl), by repeat (first | (with_reducible first | exact HB.out | apply below_alloc | apply pw_below_drewN | apply below_drew1 | refine below_set ?_ GE195.out) | exact HB.out)⟩
            · replace c41 := Bool.eq_false_iff.mpr c41
              subst c41
              have H1 : (some false) = some r := by rw [if_neg (show ¬ (false = true) by decide)] at H; exact H
              clear H
              have H := H1
              clear H1
              obtain rfl := Option.some.inj H
              obtain ⟨Ao57, co57, eo57⟩ := Kd.N_slice HO_9.out
              subst eo57
              go_wp2
              go_ret
              exact ⟨by first | rfl | (simp [errW_none, errW_some] <;> rfl) | (simp [*, errW_none, errW_some] <;> rfl), by repeat (first | (with_reducible first | exact HB.out | apply below_alloc | apply pw_below_drewN | apply below_drew1 | refine below_set ?_ GE195.out) | exact HB.out)⟩
  · replace c5 := Bool.eq_false_iff.mpr c5
    subst c5
    have H1 : (some t183) = some r := by rw [if_neg (show ¬ (false = true) by decide)] at H; exact H
    clear H
    have H := H1
    clear H1
    obtain rfl := Option.some.inj H
    go_enter Try.func3, Try.ntmps3
    go_wp2_with (first | ((with_reducible refine gate_callee (f := 19) rfl ?_); refine goesL_ (some 11) rfl rfl Try.func19 (by kernel_rfl) rfl #[] rfl (by (try simp only [List.map_toArray, List.map_cons, List.map_nil]); first | done | rfl | (simp only [List.length_drop, List.length_take]; rfl)) ?_; (with_reducible refine (sennitlaw07_awake.calls k  t183 _ A3.out).mono ?_); rintro e w58 ⟨rfl, hb⟩; refine ⟨_, rfl, ?_⟩; have n0_ := Aside0.mk (below_step (by repeat (first | (with_reducible first | exact HB.out | apply below_alloc | apply pw_below_drewN | apply below_drew1) | exact HB.out)) hb); clear HB; have HB := n0_; clear n0_; (try clear hb); (try clear hb2); (try clear hk); (try clear hi)) | ((with_reducible refine gate_callee (f := 20) rfl ?_); refine goesL_ (some 14) rfl rfl Try.func20 (by kernel_rfl) rfl #[.slice A0 l0.length c0, .slice A1 l1.length c1] rfl (by (try simp only [List.map_toArray, List.map_cons, List.map_nil]); first | done | rfl | (simp only [List.length_drop, List.length_take]; rfl)) ?_; (with_reducible refine (sennitref06_Few.calls k _ _ l0 _ _ l1 false _ ?side1 ?side2 ?side3 ?side4 A4.out).mono ?_); (case side1 => repeat (first | exact (Kd.C_below HR0.out HB.out) | (with_reducible refine Kd.C_alloc ?_ _) | (with_reducible refine Kd.C_drewN ?_ _) | (with_reducible refine Kd.C_drew ?_))); (case side2 => exact HC0.out); (case side3 => repeat (first | exact (Kd.C_below HR1.out HB.out) | (with_reducible refine Kd.C_alloc ?_ _) | (with_reducible refine Kd.C_drewN ?_ _) | (with_reducible refine Kd.C_drew ?_))); (case side4 => exact HC1.out); rintro e w' ⟨rfl, ⟨nd, rfl⟩⟩; refine ⟨_, rfl, ?_⟩))
    go_ret
    exact ⟨by first | rfl | (simp [errW_none, errW_some] <;> rfl) | (simp [*, errW_none, errW_some] <;> rfl), by repeat (first | (with_reducible first | exact HB.out | apply below_alloc | apply pw_below_drewN | apply below_drew1) | exact HB.out)⟩

end Go.Proofs.Ytiaoppikdgoieaa.M
namespace Go.Proofs.Ytiaoppikdgoieaa.M
open Go.RowKit Go.Proofs Go.Proofs.YtiaoppikdgoieaaW.PrintWords Go.Proofs.YtiaoppikdgoieaaW.PrintLast Go.Proofs.YtiaoppikdgoieaaW.PrintMore Go.Proofs.Ytiaoppikdgoieaa.Hand
attribute [local go_sem] Oper.semAt_some
set_option linter.unusedVariables false
set_option linter.unusedSimpArgs false

theorem rsame_c (a b : List ByteArray) (A0 : Option Addr) (c0 : Nat) (A1 : Option Addr) (c1 : Nat) (w : World) (hr0 : Kd.C Kd.string w A0 a.length a) (hc0 : a.length ≤ c0) (hr1 : Kd.C Kd.string w A1 b.length b) (hc1 : b.length ≤ c1) :
    Calls Try.prog 24 #[.slice A0 a.length c0, .slice A1 b.length c1] w fun e w' => e = .returned (.bool (decide (a = b))) ∧ Drawn0 w w' :=
  sennitref01_Same.calls (a.length + 1) _ _ a _ _ b _ _ hr0 hc0 hr1 hc1 (Pure.same_f a b hr0.2.1 (a.length + 1) (by omega))
theorem rall_c (a b : List (List ByteArray)) (A0 : Option Addr) (c0 : Nat) (A1 : Option Addr) (c1 : Nat) (w : World) (hr0 : Kd.C (Kd.slice 9 Kd.string) w A0 a.length a) (hc0 : a.length ≤ c0) (hr1 : Kd.C (Kd.slice 9 Kd.string) w A1 b.length b) (hc1 : b.length ≤ c1) (hs : a.length ≤ 900 ∧ ∀ x ∈ a, x.length < 900) :
    Calls Try.prog 28 #[.slice A0 a.length c0, .slice A1 b.length c1] w fun e w' => e = .returned (.bool (decide (a = b))) ∧ Drawn0 w w' :=
  sennitref06_All.calls (a.length + 1000) _ _ a _ _ b _ _ hr0 hc0 hr1 hc1 (Pure.all_f a b 900 hs.2 (by omega) (by omega) (a.length + 1000) (by omega))

def okS (l : List S27) : Prop := l.length ≤ 1000000 ∧ ∀ p ∈ l, p.f3.length ≤ 900 ∧ ∀ x ∈ p.f3, x.length < 900
instance (l : List S27) : Decidable (okS l) := inferInstanceAs (Decidable (_ ∧ _))
set_option maxHeartbeats 8000000 in
set_option maxRecDepth 100000 in
theorem rsame34_c (w : World) (A0 : Option Addr) (c0 : Nat) (l0 : List S27) (A1 : Option Addr) (c1 : Nat) (l1 : List S27) (hr0 : Kd.C k27 w A0 l0.length l0) (hc0 : l0.length ≤ c0) (hr1 : Kd.C k27 w A1 l1.length l1) (hc1 : l1.length ≤ c1) (hok : okS l0) :
    Calls Try.prog 34 #[.slice A0 l0.length c0, .slice A1 l1.length c1] w fun e w' => e = .returned (.bool (sameG l0 l1)) ∧ Drawn0 w w' := by
  have HR0 := Aside0.mk hr0
  have HR1 := Aside0.mk hr1
  have HLE := Aside0.mk hok.1
  have HOK := Aside0.mk hok.2
  clear hr0 hc0 hr1 hc1 hok
  have HG : Aside0 (sameG l0 l1 = (decide (l0.length = l1.length) && (List.zipWith sameP l0 l1).all id)) := ⟨rfl⟩
  rw [HG.out]
  by_cases hlen : l0.length = l1.length
  · have HN := Aside0.mk hlen
    have e1 : ((l0.length : Int) != (l1.length : Int)) = false := by rw [hlen]; simp
    have e2 : (l0.length != l1.length) = false := by rw [hlen]; simp
    clear hlen
    rw [decide_eq_true HN.out, Bool.true_and]
    go_enter Try.func34, Try.ntmps34
    go_wp2
    go_loopg [5] l0.length (fun kq v5 w' => ∃ i : Nat, v5 = .int .i64 (i : Int) ∧ Aside0 (i ≤ l0.length ∧ kq = l0.length - i) ∧ Aside0 ((List.zipWith sameP (l0.take i) (l1.take i)).all id = true) ∧ Drawn0 w w')
    case atStart => exact ⟨0, rfl, ⟨Nat.zero_le _, rfl⟩, ⟨by simp⟩, Drawn0.refl _⟩
    case round =>
      obtain ⟨i, rfl, HI, HA, ⟨m1, rfl⟩⟩ := hrel
      by_cases c4 : i < l0.length
      · have c4b0 : decide ((i : Int) < (l0.length : Int)) = true := decide_eq_true (by omega)
        have c4b1 : decide (i < l0.length) = true := decide_eq_true c4
        have c5 : i < l1.length := by have := HN.out; omega
        have c5b1 : decide (i < l1.length) = true := decide_eq_true c5
        obtain ⟨z, g0⟩ : ∃ z, l0[i]? = some z := ⟨_, List.getElem?_eq_getElem c4⟩
        obtain ⟨y, g1⟩ : ∃ y, l1[i]? = some y := ⟨_, List.getElem?_eq_getElem c5⟩
        obtain ⟨ad, a1, m1', a2, m2, a3, m3, rfl, hx0, hx1, hx2, hx3, hl1, hi1, hl2, hi2, hl3, hi3⟩ := C_piece HR0.out i z g0
        obtain ⟨ae, b1, n1, b2, n2, b3, n3, rfl, hy0, hy1, hy2, hy3, gl1, gi1, gl2, gi2, gl3, gi3⟩ := C_piece HR1.out i y g1
        have HSN : Aside0 ((List.zipWith sameP (l0.take (i + 1)) (l1.take (i + 1))).all id = sameP z y) := ⟨by
          rw [take_snoc l0 i z g0, take_snoc l1 i y g1, List.zipWith_append (by simp; omega)]
          have := HA.out
          simp [this]⟩
        have HIN : Aside0 (sameP z y = false → (List.zipWith sameP l0 l1).all id = false) := ⟨fun e => by
          cases hq : (List.zipWith sameP l0 l1).all id with
          | false => rfl
          | true =>
            have := List.all_eq_true.1 hq (sameP z y) (by
              refine List.mem_of_getElem? (i := i) ?_
              rw [List.getElem?_zipWith, g0, g1])
            rw [e] at this
            exact absurd this (by decide)⟩
        have HZ := Aside0.mk (HOK.out z (List.mem_of_getElem? g0))
        have T1 := Aside0.mk hi1
        have T2 := Aside0.mk hi2
        have T3 := Aside0.mk hi3
        have U1 := Aside0.mk gi1
        have U2 := Aside0.mk gi2
        have U3 := Aside0.mk gi3
        have LL := Aside0.mk (And.intro hl1 (And.intro hl2 (And.intro hl3 (And.intro gl1 (And.intro gl2 gl3)))))
        clear hi1 hi2 hi3 gi1 gi2 gi3 g0 g1 hl1 hl2 hl3 gl1 gl2 gl3
        have key : Aside0 (sameP z y = (decide (z.f0 = y.f0) && (decide (z.f1 = y.f1) && (decide (z.f2 = y.f2) && decide (z.f3 = y.f3))))) := ⟨rfl⟩
        obtain ⟨s3, h3⟩ : ∃ s3, s3 = decide (z.f3 = y.f3) := ⟨_, rfl⟩
        obtain ⟨s1, h1⟩ : ∃ s1, s1 = decide (z.f1 = y.f1) := ⟨_, rfl⟩
        obtain ⟨s2, h2⟩ : ∃ s2, s2 = decide (z.f2 = y.f2) := ⟨_, rfl⟩
        obtain ⟨p0, hp0⟩ : ∃ p0, p0 = z.f0 := ⟨_, rfl⟩
        obtain ⟨q0, hq0⟩ : ∃ q0, q0 = y.f0 := ⟨_, rfl⟩
        have KEY := Aside0.mk key.out
        rw [← h1, ← h2, ← h3, ← hp0, ← hq0] at KEY
        rw [← hp0] at hx0
        rw [← hq0] at hy0
        have H1 := Aside0.mk h1
        have H2 := Aside0.mk h2
        have H3 := Aside0.mk h3
        clear h1 h2 h3 key hp0 hq0
        cases p0 <;> cases q0 <;> cases s1 <;> cases s2 <;> cases s3
        all_goals
          go_wp2
          repeat (go_quiet (first
            | (go_at_call 24; (with_reducible refine (rsame_c z.f1 y.f1 a1 m1' b1 n1 _ ?sa ?sb ?sc ?sd).mono ?_); (case sa => with_reducible exact Kd.C_drewN T1.out _); (case sb => exact LL.out.1); (case sc => with_reducible exact Kd.C_drewN U1.out _); (case sd => exact LL.out.2.2.2.1); rintro e w' ⟨he, ⟨nd1, rfl⟩⟩; rw [← H1.out] at he; subst he; (try first | exact ⟨rfl, _, World.drewN_drewN _ _ _⟩ | exact ⟨rfl, _, Eq.trans (World.drewN_drewN _ _ _) (congrArg (World.drewN _) (Nat.add_assoc _ _ _))⟩))
            | (go_at_call 24; (with_reducible refine (rsame_c z.f2 y.f2 a2 m2 b2 n2 _ ?sa ?sb ?sc ?sd).mono ?_); (case sa => with_reducible exact Kd.C_drewN T2.out _); (case sb => exact LL.out.2.1); (case sc => with_reducible exact Kd.C_drewN U2.out _); (case sd => exact LL.out.2.2.2.2.1); rintro e w' ⟨he, ⟨nd1, rfl⟩⟩; rw [← H2.out] at he; subst he; (try first | exact ⟨rfl, _, World.drewN_drewN _ _ _⟩ | exact ⟨rfl, _, Eq.trans (World.drewN_drewN _ _ _) (congrArg (World.drewN _) (Nat.add_assoc _ _ _))⟩))
            | (go_at_call 28; (with_reducible refine (rall_c z.f3 y.f3 a3 m3 b3 n3 _ ?sa ?sb ?sc ?sd HZ.out).mono ?_); (case sa => with_reducible exact Kd.C_drewN T3.out _); (case sb => exact LL.out.2.2.1); (case sc => with_reducible exact Kd.C_drewN U3.out _); (case sd => exact LL.out.2.2.2.2.2); rintro e w' ⟨he, ⟨nd1, rfl⟩⟩; rw [← H3.out] at he; subst he; (try first | exact ⟨rfl, _, World.drewN_drewN _ _ _⟩ | exact ⟨rfl, _, Eq.trans (World.drewN_drewN _ _ _) (congrArg (World.drewN _) (Nat.add_assoc _ _ _))⟩))); try go_wp2)
        all_goals first
          | (go_ret; exact ⟨by rw [HIN.out (by rw [KEY.out]; rfl)]; rfl, by repeat (first | exact Drawn0.refl _ | apply Drawn0.step)⟩)
          | (go_roundg (l0.length - (i + 1))
             case measure => have := HI.out; omega
             case rel => exact ⟨i + 1, by have := HI.out; have := HLE.out; first | rfl | (simp; unfold wrap64; omega), ⟨by omega, rfl⟩, ⟨by rw [HSN.out, KEY.out]; rfl⟩, by repeat (first | exact Drawn0.refl _ | apply Drawn0.step)⟩)
      · have c4b0 : decide ((i : Int) < (l0.length : Int)) = false := decide_eq_false (by omega)
        have c4b1 : decide (i < l0.length) = false := decide_eq_false c4
        have HQ : Aside0 ((List.zipWith sameP l0 l1).all id = true) := ⟨by
          have := HA.out
          rwa [List.take_of_length_le (by omega), List.take_of_length_le (by have := HN.out; omega)] at this⟩
        go_wp2
        go_ret
        exact ⟨by rw [HQ.out]; rfl, ⟨⟨_, rfl⟩⟩⟩
  · have HN := Aside0.mk hlen
    have e1 : ((l0.length : Int) != (l1.length : Int)) = true := bne_iff_ne.mpr (by omega)
    have e2 : (l0.length != l1.length) = true := bne_iff_ne.mpr hlen
    clear hlen
    rw [decide_eq_false HN.out, Bool.false_and]
    go_enter Try.func34, Try.ntmps34
    go_wp2
    go_ret
    exact ⟨rfl, Drawn0.refl _⟩
def sennitref07_Same.f (k : Nat) (l0 l1 : List S27) : Option Bool := if okS l0 then some (sameG l0 l1) else none
theorem sennitref07_Same.mono : ∀ a0 a1 k, LeO (sennitref07_Same.f k a0 a1) (sennitref07_Same.f (k + 1) a0 a1) := fun _ _ _ => LeO.refl _
theorem sennitref07_Same.calls (k : Nat) (A0 : Option Addr) (c0 : Nat) (l0 : List S27) (A1 : Option Addr) (c1 : Nat) (l1 : List S27) (r : Bool) (w : World) (hr0 : Kd.C k27 w A0 l0.length l0) (hc0 : l0.length ≤ c0) (hr1 : Kd.C k27 w A1 l1.length l1) (hc1 : l1.length ≤ c1) (h : sennitref07_Same.f k l0 l1 = some r) :
    Calls Try.prog 34 #[.slice A0 l0.length c0, .slice A1 l1.length c1] w fun e w' => e = .returned (.bool r) ∧ Drawn0 w w' := by
  unfold sennitref07_Same.f at h
  split at h
  · next hb =>
    obtain rfl := Option.some.inj h
    exact rsame34_c w A0 c0 l0 A1 c1 l1 hr0 hc0 hr1 hc1 hb
  · cases h
end Go.Proofs.Ytiaoppikdgoieaa.M
namespace Go.Proofs.Ytiaoppikdgoieaa.Pure
open Go.RowKit Go.Proofs.Ytiaoppikdgoieaa.M Go.Proofs.Ytiaoppikdgoieaa.Hand Go.Proofs.YtiaoppikdgoieaaW.PrintWords Go.Proofs.YtiaoppikdgoieaaW.PrintLast Go.Proofs.YtiaoppikdgoieaaW.PrintMore
set_option linter.unusedVariables false
set_option linter.unusedSimpArgs false

theorem rdT27 (xs : List S27) (i : Nat) (h : i < xs.length) : rd_T27 xs (i : Int) = xs[i] := by
  simp [rd_T27, List.getD_eq_getElem?_getD, h]
/-- A piece of few texts. -/
def SmallP (p : S27) : Prop := Small p.f1 ∧ Small p.f2 ∧ p.f3.length ≤ 6 ∧ ∀ x ∈ p.f3, Small x
/-- A piece as it may come in. -/
def okIn (p : S27) : Prop := p.f1.length ≤ 9223372036854775807 ∧ p.f2.length ≤ 9223372036854775807 ∧ p.f3.length ≤ 9223372036854775807 ∧ ∀ x ∈ p.f3, x.length ≤ 9223372036854775807
theorem few07_l0 (l : List S27) (h1 : l.length ≤ 9223372036854775807) (h2 : ∀ p ∈ l, okIn p) (d : Nat) :
    ∀ i, i ≤ l.length → i ≤ 13 → 13 - i = d → (∀ j x, j < i → l[j]? = some x → SmallP x) →
    ∃ b, (∀ k, 2 * d + 200 ≤ k → sennitref07_Few.l0 k l (i : Int) = some b) ∧ (b = true → l.length ≤ 12 ∧ ∀ x ∈ l, SmallP x) := by
  have fin : ∀ i, i ≤ l.length → ¬ (i < l.length ∧ i < 13) → (∀ j x, j < i → l[j]? = some x → SmallP x) →
      ∃ b, (∀ k, 50 ≤ k → sennitref07_Few.l0 k l (i : Int) = some b) ∧ (b = true → l.length ≤ 12 ∧ ∀ x ∈ l, SmallP x) := by
    intro i hi hn hp
    refine ⟨decide ((l.length : Int) ≤ 12), fun k hk => ?_, fun h => ?_⟩
    · obtain ⟨k, rfl⟩ : ∃ q, k = q + 2 := ⟨k - 2, by omega⟩
      have e : sennitref07_Few.j1 (k + 1) l (i : Int) false = some (decide ((l.length : Int) ≤ 12)) := by
        rw [sennitref07_Few.j1, if_neg (by decide)]
      rw [sennitref07_Few.l0]
      by_cases h : i < l.length
      · rw [if_pos (by omega), decide_eq_false (by omega), e]
      · rw [if_neg (by omega), e]
    · simp only [decide_eq_true_eq] at h
      refine ⟨by omega, fun x hx => ?_⟩
      obtain ⟨j, hj⟩ := List.getElem?_of_mem hx
      have := (List.getElem?_eq_some_iff.1 hj).1
      exact hp j x (by omega) hj
  induction d with
  | zero =>
    intro i hi hi7 hd hp
    obtain ⟨b, h1, h2⟩ := fin i hi (by omega) hp
    exact ⟨b, fun k hk => h1 k (by omega), h2⟩
  | succ d ih =>
    intro i hi hi7 hd hp
    by_cases hc : i < l.length
    · obtain ⟨o1, o2, o3, o4⟩ := h2 _ (List.getElem_mem hc)
      obtain ⟨c, hcc, hC⟩ := few_f (l[i]).f1 20 (by omega) o1
      obtain ⟨e, hee, hE⟩ := few06_f (l[i]).f2 (l[i]).f3 o2 o3 o4
      cases c with
      | true =>
        cases e with
        | true =>
          obtain ⟨b, hb, hB⟩ := ih (i + 1) (by omega) (by omega) (by omega) (fun j x hj hx => by
            by_cases e : j = i
            · subst e
              rw [List.getElem?_eq_getElem hc] at hx
              injection hx with hx
              obtain ⟨q1, q2, q3⟩ := hE rfl
              rw [← hx]; exact ⟨hC rfl, q1, q2, q3⟩
            · exact hp j x (by omega) hx)
          refine ⟨b, fun k hk => ?_, hB⟩
          obtain ⟨k, rfl⟩ : ∃ q, k = q + 2 := ⟨k - 2, by omega⟩
          rw [sennitref07_Few.l0, if_pos (by omega), decide_eq_true (by omega), sennitref07_Few.j1, if_pos rfl, if_pos (by omega), if_pos (by omega), rdT27 _ _ hc, show (20 : Int) = ((20 : Nat) : Int) from rfl, hcc k (by omega), Option.bind_some, if_pos rfl, hee k (by omega), Option.bind_some, if_pos rfl, wrap_succ hc h1]
          exact hb k (by omega)
        | false =>
          refine ⟨false, fun k hk => ?_, fun h => by cases h⟩
          obtain ⟨k, rfl⟩ : ∃ q, k = q + 2 := ⟨k - 2, by omega⟩
          rw [sennitref07_Few.l0, if_pos (by omega), decide_eq_true (by omega), sennitref07_Few.j1, if_pos rfl, if_pos (by omega), if_pos (by omega), rdT27 _ _ hc, show (20 : Int) = ((20 : Nat) : Int) from rfl, hcc k (by omega), Option.bind_some, if_pos rfl, hee k (by omega), Option.bind_some, if_neg (by decide)]
      | false =>
        refine ⟨false, fun k hk => ?_, fun h => by cases h⟩
        obtain ⟨k, rfl⟩ : ∃ q, k = q + 2 := ⟨k - 2, by omega⟩
        rw [sennitref07_Few.l0, if_pos (by omega), decide_eq_true (by omega), sennitref07_Few.j1, if_pos rfl, if_pos (by omega), if_pos (by omega), rdT27 _ _ hc, show (20 : Int) = ((20 : Nat) : Int) from rfl, hcc k (by omega), Option.bind_some, if_neg (by decide)]
    · obtain ⟨b, h1, h2⟩ := fin i hi (by omega) hp
      exact ⟨b, fun k hk => h1 k (by omega), h2⟩
theorem few07_f (l : List S27) (h1 : l.length ≤ 9223372036854775807) (h2 : ∀ p ∈ l, okIn p) :
    ∃ b, (∀ k, 300 ≤ k → sennitref07_Few.f k l = some b) ∧ (b = true → l.length ≤ 12 ∧ ∀ x ∈ l, SmallP x) := by
  obtain ⟨b, hb, hB⟩ := few07_l0 l h1 h2 13 0 (by omega) (by omega) (by omega) (fun j x hj => by omega)
  exact ⟨b, fun k hk => hb k (by omega), hB⟩

theorem sameG_self (a : List S27) : sameG a a = true := (sameP_all a a).2 rfl
theorem sameG_iff (a b : List S27) : sameG a b = true ↔ a = b := sameP_all a b
theorem small_okS {l : List S27} (h1 : l.length ≤ 100000) (h2 : ∀ p ∈ l, p.f3.length ≤ 800 ∧ ∀ x ∈ p.f3, x.length ≤ 800) : okS l :=
  ⟨by omega, fun p hp => ⟨by have := (h2 p hp).1; omega, fun x hx => by have := (h2 p hp).2 x hx; omega⟩⟩
theorem rSame_f (l0 l1 : List S27) (k : Nat) (h1 : l0.length ≤ 100000) (h2 : ∀ p ∈ l0, p.f3.length ≤ 800 ∧ ∀ x ∈ p.f3, x.length ≤ 800) : sennitref07_Same.f k l0 l1 = some (sameG l0 l1) := by
  unfold sennitref07_Same.f; rw [if_pos (small_okS h1 h2)]
theorem pSame_f (l0 l1 : List S27) (k : Nat) (h1 : l0.length ≤ 100000) : pick_Same.f k l0 l1 = some (sameG l0 l1) := by
  unfold pick_Same.f; rw [if_pos (by omega)]
end Go.Proofs.Ytiaoppikdgoieaa.Pure
namespace Go.Proofs.Ytiaoppikdgoieaa.Pure
open Go.RowKit Go.Proofs.Ytiaoppikdgoieaa.M Go.Proofs.Ytiaoppikdgoieaa.Hand Go.Proofs.YtiaoppikdgoieaaW.PrintWords Go.Proofs.YtiaoppikdgoieaaW.PrintLast Go.Proofs.YtiaoppikdgoieaaW.PrintMore
set_option linter.unusedVariables false
set_option linter.unusedSimpArgs false
theorem awake07 (k : Nat) (hk : 1 ≤ k) : sennitlaw07_awake.f k = some true := by
  obtain ⟨k, rfl⟩ : ∃ q, k = q + 1 := ⟨k - 1, by omega⟩
  unfold sennitlaw07_awake.f
  have e1 : othersG [(⟨#[97]⟩ : ByteArray)] [[(⟨#[98]⟩ : ByteArray)], [(⟨#[99]⟩ : ByteArray)]] [] = [[(⟨#[98]⟩ : ByteArray)], [(⟨#[99]⟩ : ByteArray)]] := by decide
  have hp : pick_Piece.f (k + 1) [(⟨#[97]⟩ : ByteArray)] [[(⟨#[98]⟩ : ByteArray)], [(⟨#[99]⟩ : ByteArray)]] 0 false = some (true, [], [(⟨#[97]⟩ : ByteArray)], [[(⟨#[98]⟩ : ByteArray)], [(⟨#[99]⟩ : ByteArray)]]) := by
    unfold pick_Piece.f
    rw [Differing_f _ _ (by decide), Option.bind_some, e1]
    simp [pick_Piece.j0]
  have hn : pick_Normal.f (k + 1) [(⟨false, [(⟨#[120]⟩ : ByteArray)], [], []⟩ : S27), ⟨false, [], [], []⟩, ⟨false, [(⟨#[121]⟩ : ByteArray)], [], []⟩, ⟨true, [], [(⟨#[97]⟩ : ByteArray)], [[(⟨#[98]⟩ : ByteArray)], [(⟨#[99]⟩ : ByteArray)]]⟩] =
      some [(⟨false, [(⟨#[120]⟩ : ByteArray), ⟨#[121]⟩], [], []⟩ : S27), ⟨true, [], [(⟨#[97]⟩ : ByteArray)], [[(⟨#[98]⟩ : ByteArray)], [(⟨#[99]⟩ : ByteArray)]]⟩] := by
    unfold pick_Normal.f
    rw [if_pos ⟨by decide, by decide⟩]
    simp [normG, putG, rd_T27]
  have hc : pick_Choose.f (k + 1) [(⟨false, [(⟨#[120]⟩ : ByteArray), ⟨#[121]⟩], [], []⟩ : S27), ⟨true, [], [(⟨#[97]⟩ : ByteArray)], [[(⟨#[98]⟩ : ByteArray)], [(⟨#[99]⟩ : ByteArray)]]⟩] 2 = some [(⟨#[120]⟩ : ByteArray), ⟨#[121]⟩, ⟨#[99]⟩] := by
    unfold pick_Choose.f
    have : chooseG 2 [(⟨false, [(⟨#[120]⟩ : ByteArray), ⟨#[121]⟩], [], []⟩ : S27), ⟨true, [], [(⟨#[97]⟩ : ByteArray)], [[(⟨#[98]⟩ : ByteArray)], [(⟨#[99]⟩ : ByteArray)]]⟩] = [(⟨#[120]⟩ : ByteArray), ⟨#[121]⟩, ⟨#[99]⟩] := by
      simp [chooseG, chooseP, rd_L1]
    rw [this, if_pos (by decide)]
  rw [hp, Option.bind_some, hn, Option.bind_some, hc, Option.bind_some]
  simp [pick_Clean.f, pick_Same.f, sameG_self, rd_T27, rdOf, ByteArray.toList_eq]
end Go.Proofs.Ytiaoppikdgoieaa.Pure
