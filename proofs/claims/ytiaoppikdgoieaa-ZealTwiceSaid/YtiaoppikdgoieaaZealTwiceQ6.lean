/- Texts of the claim ZealTwice, put together (part 6): pick.Same: closures by contracts of their own. sennitref07.Same: what it tells, as a Lean function, and that the machine's call does what it says. By a program of this session: a Go function as a Lean function, and that the machine's call does what it says. What the functions of layer 7 tell, with rounds enough. Plain Lean. Layer 7: few pieces. Plain Lean. -/
import Derived.ArgAppend
import Derived.Below
import Derived.BigQuiet
import Derived.Deep.AppendLies
import Derived.Deep.CutBlock
import Derived.Deep.DeepCutAuto
import Derived.Deep.Draws
import Derived.Deep.LoopGhost
import Derived.Deep.OwnRows
import Derived.Deep.QuietTactic
import Derived.Deep.RegionHeld3
import Derived.KernelRfl
import Derived.Laws.BitsLemmas
import Derived.Laws.BytesArg
import Derived.Laws.EntriesVeiled
import Derived.Laws.IdiomCopy
import Derived.Laws.MakeOwn
import Derived.Laws.OwnMore
import Derived.Laws.Rows
import Derived.Laws.Slices
import Derived.Lib.AppendStr
import Derived.Lib.ConvBytes
import Derived.Maps.AppendAt
import Derived.OrdersHeld
import Derived.OwnWalk
import Derived.RangeFuncBox
import Derived.RowKit
import Derived.RowKit3
import Derived.Tactics
import Derived.Test.YtiaoppikdgoieaaProg
import Derived.Test.YtiaoppikdgoieaaWApart
import Derived.Test.YtiaoppikdgoieaaWArr
import Derived.Test.YtiaoppikdgoieaaWAt
import Derived.Test.YtiaoppikdgoieaaWEqStruct
import Derived.Test.YtiaoppikdgoieaaWFoot
import Derived.Test.YtiaoppikdgoieaaWFootNe
import Derived.Test.YtiaoppikdgoieaaWFour
import Derived.Test.YtiaoppikdgoieaaWGuard
import Derived.Test.YtiaoppikdgoieaaWInv
import Derived.Test.YtiaoppikdgoieaaWInvWords
import Derived.Test.YtiaoppikdgoieaaWKept
import Derived.Test.YtiaoppikdgoieaaWLast
import Derived.Test.YtiaoppikdgoieaaWMore
import Derived.Test.YtiaoppikdgoieaaWN
import Derived.Test.YtiaoppikdgoieaaWNEv
import Derived.Test.YtiaoppikdgoieaaWQPut
import Derived.Test.YtiaoppikdgoieaaWRepsOne
import Derived.Test.YtiaoppikdgoieaaWShare
import Derived.Test.YtiaoppikdgoieaaWTab
import Derived.Test.YtiaoppikdgoieaaWWords
import Derived.Test.YtiaoppikdgoieaaWZeros
import Derived.WalkKit
import Derived.WideLaws
import Derived.Test.YtiaoppikdgoieaaZealTwiceQ5
namespace Go.Proofs.Ytiaoppikdgoieaa.M
open Go.RowKit Go.Proofs Go.Proofs.YtiaoppikdgoieaaW.PrintWords Go.Proofs.YtiaoppikdgoieaaW.PrintLast Go.Proofs.YtiaoppikdgoieaaW.PrintMore Go.Proofs.Ytiaoppikdgoieaa.Hand
attribute [local go_sem] Oper.semAt_some
set_option linter.unusedVariables false
set_option linter.unusedSimpArgs false

set_option maxHeartbeats 4000000 in
set_option maxRecDepth 100000 in
theorem equal53_c (w0 : World) (p : Addr) (A0 : Option Addr) (c0 : Nat) (l0 : List S27) (A1 : Option Addr) (c1 : Nat) (l1 : List S27) (hp : w0.cell? p = some (.func (.func 52) #[] #[])) (hpl : p.block < w0.heap.size)
    (hr0 : Kd.C k27 w0 A0 l0.length l0) (hc0 : l0.length ≤ c0) (hr1 : Kd.C k27 w0 A1 l1.length l1) (hc1 : l1.length ≤ c1) (hle : l0.length ≤ 1000000000) :
    Calls Try.prog 53 #[.slice A0 l0.length c0, .slice A1 l1.length c1, .func (.func 54) #[] #[.pointer (some p)]] w0 fun e w' => e = .returned (.bool (decide (l0.length = l1.length) && (List.zipWith sameP l0 l1).all id)) ∧ Below w0.heap.size w0 w' := by
  have HR0 := Aside0.mk hr0
  have HC0 := Aside0.mk hc0
  have HR1 := Aside0.mk hr1
  have HC1 := Aside0.mk hc1
  have HL0 := Aside0.mk hr0.2.1
  have HL1 := Aside0.mk hr1.2.1
  have HP := Aside0.mk hp
  have HPL := Aside0.mk hpl
  have HLE := Aside0.mk hle
  clear hr0 hc0 hr1 hc1 hp hpl hle
  by_cases hlen : l0.length = l1.length
  · have HN := Aside0.mk hlen
    have e1 : ((l0.length : Int) != (l1.length : Int)) = false := by rw [hlen]; simp
    have e2 : (l0.length != l1.length) = false := by rw [hlen]; simp
    clear hlen
    rw [decide_eq_true HN.out, Bool.true_and]
    go_enter Try.func53, Try.ntmps53
    go_wp2
    repeat (go_quiet (fail); try go_wp2)
    go_loopg [17] l0.length (fun kq v17 w' => ∃ i : Nat, v17 = .int .i64 (i : Int) ∧ Aside0 (i ≤ l0.length ∧ kq = l0.length - i) ∧ Aside0 ((List.zipWith sameP (l0.take i) (l1.take i)).all id = true) ∧ Aside0 (Below w0.heap.size w0 w'))
    case atStart => exact ⟨0, rfl, ⟨Nat.zero_le _, rfl⟩, ⟨by simp⟩, ⟨Below.refl _ _⟩⟩
    case round =>
      obtain ⟨i, rfl, HI, HA, HB⟩ := hrel
      have hli := HL0.out
      by_cases c4 : i < l0.length
      · have c4b0 : decide ((i : Int) < (l0.length : Int)) = true := decide_eq_true (by omega)
        have c4b1 : decide (i < l0.length) = true := decide_eq_true c4
        have c5 : i < l1.length := by have := HN.out; omega
        have c5b1 : decide (i < l1.length) = true := decide_eq_true c5
        obtain ⟨z, g0⟩ : ∃ z, l0[i]? = some z := ⟨_, List.getElem?_eq_getElem c4⟩
        obtain ⟨y, g1⟩ : ∃ y, l1[i]? = some y := ⟨_, List.getElem?_eq_getElem c5⟩
        obtain ⟨ad, a1, m1, a2, m2, a3, m3, rfl, hx0, hx1, hx2, hx3, hl1, hi1, hl2, hi2, hl3, hi3⟩ := C_piece HR0.out i z g0
        obtain ⟨ae, b1, n1, b2, n2, b3, n3, rfl, hy0, hy1, hy2, hy3, gl1, gi1, gl2, gi2, gl3, gi3⟩ := C_piece HR1.out i y g1
        have HSN : Aside0 ((List.zipWith sameP (l0.take (i + 1)) (l1.take (i + 1))).all id = sameP z y) := ⟨by
          rw [take_snoc l0 i z g0, take_snoc l1 i y g1, List.zipWith_append (by simp; omega)]
          have := HA.out
          simp [this]⟩
        have HIN : Aside0 (sameP z y = false → (List.zipWith sameP l0 l1).all id = false) := ⟨fun e => by
          cases hq : (List.zipWith sameP l0 l1).all id with
          | false => rfl
          | true =>
            have := List.all_eq_true.1 hq (sameP z y) (by
              refine List.mem_of_getElem? (i := i) ?_
              rw [List.getElem?_zipWith, g0, g1])
            rw [e] at this
            exact absurd this (by decide)⟩
        have HX0 := Aside0.mk hx0
        have HX1 := Aside0.mk hx1
        have HX2 := Aside0.mk hx2
        have HX3 := Aside0.mk hx3
        have HY0 := Aside0.mk hy0
        have HY1 := Aside0.mk hy1
        have HY2 := Aside0.mk hy2
        have HY3 := Aside0.mk hy3
        have T1 := Aside0.mk hi1
        have T2 := Aside0.mk hi2
        have T3 := Aside0.mk hi3
        have U1 := Aside0.mk gi1
        have U2 := Aside0.mk gi2
        have U3 := Aside0.mk gi3
        have k0 := (HB.out.cell (World.block_lt_of_cell? w0 _ hx0)).trans hx0
        have k1 := (HB.out.cell (World.block_lt_of_cell? w0 _ hx1)).trans hx1
        have k2 := (HB.out.cell (World.block_lt_of_cell? w0 _ hx2)).trans hx2
        have k3 := (HB.out.cell (World.block_lt_of_cell? w0 _ hx3)).trans hx3
        have hB1 : Below w0.heap.size w0 (wr.alloc (.cells #[.bool z.f0, .slice a1 z.f1.length m1, .slice a2 z.f2.length m2, .slice a3 z.f3.length m3] 27)) := below_alloc HB.out _
        have j0 := (hB1.cell (World.block_lt_of_cell? w0 _ hy0)).trans hy0
        have j1 := (hB1.cell (World.block_lt_of_cell? w0 _ hy1)).trans hy1
        have j2 := (hB1.cell (World.block_lt_of_cell? w0 _ hy2)).trans hy2
        have j3 := (hB1.cell (World.block_lt_of_cell? w0 _ hy3)).trans hy3
        have W1b := Aside0.mk hB1
        clear hi1 hi2 hi3 gi1 gi2 gi3 g0 g1 hx0 hx1 hx2 hx3 hy0 hy1 hy2 hy3 hB1
        clear hli
        cases hs : sameP z y with
        | true =>
          rw [hs] at HSN
          have HS := Aside0.mk hs
          clear hs HIN
          go_wp2_with (go_at_call 54; (with_reducible refine (same54_c _ p z.f0 y.f0 z.f1 y.f1 z.f2 y.f2 z.f3 y.f3 a1 a2 a3 b1 b2 b3 m1 m2 m3 n1 n2 n3 ?hp ?hpl ?ha1 hl1 ?ha2 hl2 ?ha3 hl3 ?he1 gl1 ?he2 gl2 ?he3 gl3).mono ?_); (case hp => exact ((below_alloc W1b.out _).cell HPL.out).trans HP.out); (case hpl => exact Nat.lt_of_lt_of_le HPL.out (below_size (below_alloc W1b.out _))); (case ha1 => exact Kd.C_below T1.out (below_alloc W1b.out _)); (case ha2 => exact Kd.C_below T2.out (below_alloc W1b.out _)); (case ha3 => exact Kd.C_below T3.out (below_alloc W1b.out _)); (case he1 => exact Kd.C_below U1.out (below_alloc W1b.out _)); (case he2 => exact Kd.C_below U2.out (below_alloc W1b.out _)); (case he3 => exact Kd.C_below U3.out (below_alloc W1b.out _)); rintro e w' ⟨he, hb⟩; replace he : e = .returned (.bool true) := he.trans (by rw [show sameP ⟨z.f0, z.f1, z.f2, z.f3⟩ ⟨y.f0, y.f1, y.f2, y.f3⟩ = true from HS.out]); subst he; have n1_ := Aside0.mk (below_step (below_alloc W1b.out _) hb); clear hb)
          go_roundg (l0.length - (i + 1))
          case measure => have := HI.out; omega
          case rel => exact ⟨i + 1, by have := HI.out; have := HLE.out; first | rfl | (simp; unfold wrap64; omega), ⟨by omega, rfl⟩, ⟨HSN.out⟩, n1_⟩
        | false =>
          have HS := Aside0.mk hs
          have HIN2 := Aside0.mk (HIN.out hs)
          clear hs HIN
          go_wp2_with (go_at_call 54; (with_reducible refine (same54_c _ p z.f0 y.f0 z.f1 y.f1 z.f2 y.f2 z.f3 y.f3 a1 a2 a3 b1 b2 b3 m1 m2 m3 n1 n2 n3 ?hp ?hpl ?ha1 hl1 ?ha2 hl2 ?ha3 hl3 ?he1 gl1 ?he2 gl2 ?he3 gl3).mono ?_); (case hp => exact ((below_alloc W1b.out _).cell HPL.out).trans HP.out); (case hpl => exact Nat.lt_of_lt_of_le HPL.out (below_size (below_alloc W1b.out _))); (case ha1 => exact Kd.C_below T1.out (below_alloc W1b.out _)); (case ha2 => exact Kd.C_below T2.out (below_alloc W1b.out _)); (case ha3 => exact Kd.C_below T3.out (below_alloc W1b.out _)); (case he1 => exact Kd.C_below U1.out (below_alloc W1b.out _)); (case he2 => exact Kd.C_below U2.out (below_alloc W1b.out _)); (case he3 => exact Kd.C_below U3.out (below_alloc W1b.out _)); rintro e w' ⟨he, hb⟩; replace he : e = .returned (.bool false) := he.trans (by rw [show sameP ⟨z.f0, z.f1, z.f2, z.f3⟩ ⟨y.f0, y.f1, y.f2, y.f3⟩ = false from HS.out]); subst he; have n1_ := Aside0.mk (below_step (below_alloc W1b.out _) hb); clear hb)
          go_ret
          exact ⟨by rw [HIN2.out]; rfl, n1_.out⟩
      · have c4b0 : decide ((i : Int) < (l0.length : Int)) = false := decide_eq_false (by omega)
        have c4b1 : decide (i < l0.length) = false := decide_eq_false c4
        have HQ : Aside0 ((List.zipWith sameP l0 l1).all id = true) := ⟨by
          have := HA.out
          rwa [List.take_of_length_le (by omega), List.take_of_length_le (by have := HN.out; omega)] at this⟩
        go_wp2
        repeat (go_quiet (fail); try go_wp2)
        go_ret
        exact ⟨by rw [HQ.out]; rfl, HB.out⟩
  · have HN := Aside0.mk hlen
    have e1 : ((l0.length : Int) != (l1.length : Int)) = true := bne_iff_ne.mpr (by omega)
    have e2 : (l0.length != l1.length) = true := bne_iff_ne.mpr hlen
    clear hlen
    rw [decide_eq_false HN.out, Bool.false_and]
    go_enter Try.func53, Try.ntmps53
    go_wp2
    repeat (go_quiet (fail); try go_wp2)
    go_ret
    exact ⟨rfl, Below.refl _ _⟩

theorem sameP_all (a b : List S27) : (decide (a.length = b.length) && (List.zipWith sameP a b).all id) = true ↔ a = b := by
  induction a generalizing b with
  | nil => cases b <;> simp
  | cons x t ih =>
    cases b with
    | nil => simp
    | cons y u =>
      have := ih u
      simp only [Bool.and_eq_true, decide_eq_true_eq] at this
      simp only [List.length_cons, List.zipWith_cons_cons, List.all_cons, id_eq, Bool.and_eq_true, decide_eq_true_eq, List.cons.injEq, sameP_iff, ← this, Nat.add_right_cancel_iff]
      constructor
      · rintro ⟨h1, h2, h3⟩; exact ⟨h2, h1, h3⟩
      · rintro ⟨h1, h2, h3⟩; exact ⟨h2, h1, h3⟩
def sameG (a b : List S27) : Bool := decide (a.length = b.length) && (List.zipWith sameP a b).all id
def pick_Same.f (k : Nat) (l0 l1 : List S27) : Option Bool := if l0.length ≤ 1000000000 then some (sameG l0 l1) else none
theorem pick_Same.mono : ∀ a0 a1 k, LeO (pick_Same.f k a0 a1) (pick_Same.f (k + 1) a0 a1) := fun _ _ _ => LeO.refl _
set_option maxHeartbeats 1000000 in
theorem pick_Same.calls (k : Nat) (A0 : Option Addr) (c0 : Nat) (l0 : List S27) (A1 : Option Addr) (c1 : Nat) (l1 : List S27) (r : Bool) (w : World) (hr0 : Kd.C k27 w A0 l0.length l0) (hc0 : l0.length ≤ c0) (hr1 : Kd.C k27 w A1 l1.length l1) (hc1 : l1.length ≤ c1) (h : pick_Same.f k l0 l1 = some r) :
    Calls Try.prog 33 #[.slice A0 l0.length c0, .slice A1 l1.length c1] w fun e w' => e = .returned (.bool r) ∧ Below w.heap.size w w' := by
  unfold pick_Same.f at h
  by_cases hb : l0.length ≤ 1000000000
  · rw [if_pos hb] at h
    obtain rfl := Option.some.inj h
    have HC := Aside0.mk (equal53_c (w.alloc (.cells #[.func (.func 52) #[] #[]] 33)) ⟨w.heap.size, 0, none⟩ A0 c0 l0 A1 c1 l1 (cell_new _ _ _) (by simp) (Kd.C_alloc hr0 _) hc0 (Kd.C_alloc hr1 _) hc1 hb)
    have HB := Aside0.mk (below_alloc (Below.refl w.heap.size w) (.cells #[.func (.func 52) #[] #[]] 33))
    clear hr0 hc0 hr1 hc1 hb h
    show Calls Try.prog 33 _ w fun e w' => e = .returned (.bool (decide (l0.length = l1.length) && (List.zipWith sameP l0 l1).all id)) ∧ Below w.heap.size w w'
    generalize (decide (l0.length = l1.length) && (List.zipWith sameP l0 l1).all id) = b at HC ⊢
    go_enter Try.func33, Try.ntmps33
    go_wp2_with (go_at_call 53; (with_reducible refine HC.out.mono ?_); rintro e w' ⟨rfl, hb⟩; have HB2 := Aside0.mk (HB.out.trans (hb.mono (by simp))); clear hb)
    go_ret
    exact ⟨rfl, HB2.out⟩
  · rw [if_neg hb] at h
    exact absurd h (by simp)
end Go.Proofs.Ytiaoppikdgoieaa.M
namespace Go.Proofs.Ytiaoppikdgoieaa.M
open Go.RowKit Go.Proofs Go.Proofs.YtiaoppikdgoieaaW.PrintWords Go.Proofs.YtiaoppikdgoieaaW.PrintLast Go.Proofs.YtiaoppikdgoieaaW.PrintMore Go.Proofs.Ytiaoppikdgoieaa.Hand
attribute [local go_sem] Oper.semAt_some
set_option linter.unusedVariables false
set_option linter.unusedSimpArgs false

theorem rsame_c (a b : List ByteArray) (A0 : Option Addr) (c0 : Nat) (A1 : Option Addr) (c1 : Nat) (w : World) (hr0 : Kd.C Kd.string w A0 a.length a) (hc0 : a.length ≤ c0) (hr1 : Kd.C Kd.string w A1 b.length b) (hc1 : b.length ≤ c1) :
    Calls Try.prog 24 #[.slice A0 a.length c0, .slice A1 b.length c1] w fun e w' => e = .returned (.bool (decide (a = b))) ∧ Drawn0 w w' :=
  sennitref01_Same.calls (a.length + 1) _ _ a _ _ b _ _ hr0 hc0 hr1 hc1 (Pure.same_f a b hr0.2.1 (a.length + 1) (by omega))
theorem rall_c (a b : List (List ByteArray)) (A0 : Option Addr) (c0 : Nat) (A1 : Option Addr) (c1 : Nat) (w : World) (hr0 : Kd.C (Kd.slice 9 Kd.string) w A0 a.length a) (hc0 : a.length ≤ c0) (hr1 : Kd.C (Kd.slice 9 Kd.string) w A1 b.length b) (hc1 : b.length ≤ c1) (hs : a.length ≤ 900 ∧ ∀ x ∈ a, x.length < 900) :
    Calls Try.prog 28 #[.slice A0 a.length c0, .slice A1 b.length c1] w fun e w' => e = .returned (.bool (decide (a = b))) ∧ Drawn0 w w' :=
  sennitref06_All.calls (a.length + 1000) _ _ a _ _ b _ _ hr0 hc0 hr1 hc1 (Pure.all_f a b 900 hs.2 (by omega) (by omega) (a.length + 1000) (by omega))

def okS (l : List S27) : Prop := l.length ≤ 1000000 ∧ ∀ p ∈ l, p.f3.length ≤ 900 ∧ ∀ x ∈ p.f3, x.length < 900
instance (l : List S27) : Decidable (okS l) := inferInstanceAs (Decidable (_ ∧ _))
set_option maxHeartbeats 8000000 in
set_option maxRecDepth 100000 in
theorem rsame34_c (w : World) (A0 : Option Addr) (c0 : Nat) (l0 : List S27) (A1 : Option Addr) (c1 : Nat) (l1 : List S27) (hr0 : Kd.C k27 w A0 l0.length l0) (hc0 : l0.length ≤ c0) (hr1 : Kd.C k27 w A1 l1.length l1) (hc1 : l1.length ≤ c1) (hok : okS l0) :
    Calls Try.prog 34 #[.slice A0 l0.length c0, .slice A1 l1.length c1] w fun e w' => e = .returned (.bool (sameG l0 l1)) ∧ Drawn0 w w' := by
  have HR0 := Aside0.mk hr0
  have HR1 := Aside0.mk hr1
  have HLE := Aside0.mk hok.1
  have HOK := Aside0.mk hok.2
  clear hr0 hc0 hr1 hc1 hok
  have HG : Aside0 (sameG l0 l1 = (decide (l0.length = l1.length) && (List.zipWith sameP l0 l1).all id)) := ⟨rfl⟩
  rw [HG.out]
  by_cases hlen : l0.length = l1.length
  · have HN := Aside0.mk hlen
    have e1 : ((l0.length : Int) != (l1.length : Int)) = false := by rw [hlen]; simp
    have e2 : (l0.length != l1.length) = false := by rw [hlen]; simp
    clear hlen
    rw [decide_eq_true HN.out, Bool.true_and]
    go_enter Try.func34, Try.ntmps34
    go_wp2
    go_loopg [5] l0.length (fun kq v5 w' => ∃ i : Nat, v5 = .int .i64 (i : Int) ∧ Aside0 (i ≤ l0.length ∧ kq = l0.length - i) ∧ Aside0 ((List.zipWith sameP (l0.take i) (l1.take i)).all id = true) ∧ Drawn0 w w')
    case atStart => exact ⟨0, rfl, ⟨Nat.zero_le _, rfl⟩, ⟨by simp⟩, Drawn0.refl _⟩
    case round =>
      obtain ⟨i, rfl, HI, HA, ⟨m1, rfl⟩⟩ := hrel
      by_cases c4 : i < l0.length
      · have c4b0 : decide ((i : Int) < (l0.length : Int)) = true := decide_eq_true (by omega)
        have c4b1 : decide (i < l0.length) = true := decide_eq_true c4
        have c5 : i < l1.length := by have := HN.out; omega
        have c5b1 : decide (i < l1.length) = true := decide_eq_true c5
        obtain ⟨z, g0⟩ : ∃ z, l0[i]? = some z := ⟨_, List.getElem?_eq_getElem c4⟩
        obtain ⟨y, g1⟩ : ∃ y, l1[i]? = some y := ⟨_, List.getElem?_eq_getElem c5⟩
        obtain ⟨ad, a1, m1', a2, m2, a3, m3, rfl, hx0, hx1, hx2, hx3, hl1, hi1, hl2, hi2, hl3, hi3⟩ := C_piece HR0.out i z g0
        obtain ⟨ae, b1, n1, b2, n2, b3, n3, rfl, hy0, hy1, hy2, hy3, gl1, gi1, gl2, gi2, gl3, gi3⟩ := C_piece HR1.out i y g1
        have HSN : Aside0 ((List.zipWith sameP (l0.take (i + 1)) (l1.take (i + 1))).all id = sameP z y) := ⟨by
          rw [take_snoc l0 i z g0, take_snoc l1 i y g1, List.zipWith_append (by simp; omega)]
          have := HA.out
          simp [this]⟩
        have HIN : Aside0 (sameP z y = false → (List.zipWith sameP l0 l1).all id = false) := ⟨fun e => by
          cases hq : (List.zipWith sameP l0 l1).all id with
          | false => rfl
          | true =>
            have := List.all_eq_true.1 hq (sameP z y) (by
              refine List.mem_of_getElem? (i := i) ?_
              rw [List.getElem?_zipWith, g0, g1])
            rw [e] at this
            exact absurd this (by decide)⟩
        have HZ := Aside0.mk (HOK.out z (List.mem_of_getElem? g0))
        have T1 := Aside0.mk hi1
        have T2 := Aside0.mk hi2
        have T3 := Aside0.mk hi3
        have U1 := Aside0.mk gi1
        have U2 := Aside0.mk gi2
        have U3 := Aside0.mk gi3
        have LL := Aside0.mk (And.intro hl1 (And.intro hl2 (And.intro hl3 (And.intro gl1 (And.intro gl2 gl3)))))
        clear hi1 hi2 hi3 gi1 gi2 gi3 g0 g1 hl1 hl2 hl3 gl1 gl2 gl3
        have key : Aside0 (sameP z y = (decide (z.f0 = y.f0) && (decide (z.f1 = y.f1) && (decide (z.f2 = y.f2) && decide (z.f3 = y.f3))))) := ⟨rfl⟩
        obtain ⟨s3, h3⟩ : ∃ s3, s3 = decide (z.f3 = y.f3) := ⟨_, rfl⟩
        obtain ⟨s1, h1⟩ : ∃ s1, s1 = decide (z.f1 = y.f1) := ⟨_, rfl⟩
        obtain ⟨s2, h2⟩ : ∃ s2, s2 = decide (z.f2 = y.f2) := ⟨_, rfl⟩
        obtain ⟨p0, hp0⟩ : ∃ p0, p0 = z.f0 := ⟨_, rfl⟩
        obtain ⟨q0, hq0⟩ : ∃ q0, q0 = y.f0 := ⟨_, rfl⟩
        have KEY := Aside0.mk key.out
        rw [← h1, ← h2, ← h3, ← hp0, ← hq0] at KEY
        rw [← hp0] at hx0
        rw [← hq0] at hy0
        have H1 := Aside0.mk h1
        have H2 := Aside0.mk h2
        have H3 := Aside0.mk h3
        clear h1 h2 h3 key hp0 hq0
        cases p0 <;> cases q0 <;> cases s1 <;> cases s2 <;> cases s3
        all_goals
          go_wp2
          repeat (go_quiet (first
            | (go_at_call 24; (with_reducible refine (rsame_c z.f1 y.f1 a1 m1' b1 n1 _ ?sa ?sb ?sc ?sd).mono ?_); (case sa => with_reducible exact Kd.C_drewN T1.out _); (case sb => exact LL.out.1); (case sc => with_reducible exact Kd.C_drewN U1.out _); (case sd => exact LL.out.2.2.2.1); rintro e w' ⟨he, ⟨nd1, rfl⟩⟩; rw [← H1.out] at he; subst he; (try first | exact ⟨rfl, _, World.drewN_drewN _ _ _⟩ | exact ⟨rfl, _, Eq.trans (World.drewN_drewN _ _ _) (congrArg (World.drewN _) (Nat.add_assoc _ _ _))⟩))
            | (go_at_call 24; (with_reducible refine (rsame_c z.f2 y.f2 a2 m2 b2 n2 _ ?sa ?sb ?sc ?sd).mono ?_); (case sa => with_reducible exact Kd.C_drewN T2.out _); (case sb => exact LL.out.2.1); (case sc => with_reducible exact Kd.C_drewN U2.out _); (case sd => exact LL.out.2.2.2.2.1); rintro e w' ⟨he, ⟨nd1, rfl⟩⟩; rw [← H2.out] at he; subst he; (try first | exact ⟨rfl, _, World.drewN_drewN _ _ _⟩ | exact ⟨rfl, _, Eq.trans (World.drewN_drewN _ _ _) (congrArg (World.drewN _) (Nat.add_assoc _ _ _))⟩))
            | (go_at_call 28; (with_reducible refine (rall_c z.f3 y.f3 a3 m3 b3 n3 _ ?sa ?sb ?sc ?sd HZ.out).mono ?_); (case sa => with_reducible exact Kd.C_drewN T3.out _); (case sb => exact LL.out.2.2.1); (case sc => with_reducible exact Kd.C_drewN U3.out _); (case sd => exact LL.out.2.2.2.2.2); rintro e w' ⟨he, ⟨nd1, rfl⟩⟩; rw [← H3.out] at he; subst he; (try first | exact ⟨rfl, _, World.drewN_drewN _ _ _⟩ | exact ⟨rfl, _, Eq.trans (World.drewN_drewN _ _ _) (congrArg (World.drewN _) (Nat.add_assoc _ _ _))⟩))); try go_wp2)
        all_goals first
          | (go_ret; exact ⟨by rw [HIN.out (by rw [KEY.out]; rfl)]; rfl, by repeat (first | exact Drawn0.refl _ | apply Drawn0.step)⟩)
          | (go_roundg (l0.length - (i + 1))
             case measure => have := HI.out; omega
             case rel => exact ⟨i + 1, by have := HI.out; have := HLE.out; first | rfl | (simp; unfold wrap64; omega), ⟨by omega, rfl⟩, ⟨by rw [HSN.out, KEY.out]; rfl⟩, by repeat (first | exact Drawn0.refl _ | apply Drawn0.step)⟩)
      · have c4b0 : decide ((i : Int) < (l0.length : Int)) = false := decide_eq_false (by omega)
        have c4b1 : decide (i < l0.length) = false := decide_eq_false c4
        have HQ : Aside0 ((List.zipWith sameP l0 l1).all id = true) := ⟨by
          have := HA.out
          rwa [List.take_of_length_le (by omega), List.take_of_length_le (by have := HN.out; omega)] at this⟩
        go_wp2
        go_ret
        exact ⟨by rw [HQ.out]; rfl, ⟨⟨_, rfl⟩⟩⟩
  · have HN := Aside0.mk hlen
    have e1 : ((l0.length : Int) != (l1.length : Int)) = true := bne_iff_ne.mpr (by omega)
    have e2 : (l0.length != l1.length) = true := bne_iff_ne.mpr hlen
    clear hlen
    rw [decide_eq_false HN.out, Bool.false_and]
    go_enter Try.func34, Try.ntmps34
    go_wp2
    go_ret
    exact ⟨rfl, Drawn0.refl _⟩
def sennitref07_Same.f (k : Nat) (l0 l1 : List S27) : Option Bool := if okS l0 then some (sameG l0 l1) else none
theorem sennitref07_Same.mono : ∀ a0 a1 k, LeO (sennitref07_Same.f k a0 a1) (sennitref07_Same.f (k + 1) a0 a1) := fun _ _ _ => LeO.refl _
theorem sennitref07_Same.calls (k : Nat) (A0 : Option Addr) (c0 : Nat) (l0 : List S27) (A1 : Option Addr) (c1 : Nat) (l1 : List S27) (r : Bool) (w : World) (hr0 : Kd.C k27 w A0 l0.length l0) (hc0 : l0.length ≤ c0) (hr1 : Kd.C k27 w A1 l1.length l1) (hc1 : l1.length ≤ c1) (h : sennitref07_Same.f k l0 l1 = some r) :
    Calls Try.prog 34 #[.slice A0 l0.length c0, .slice A1 l1.length c1] w fun e w' => e = .returned (.bool r) ∧ Drawn0 w w' := by
  unfold sennitref07_Same.f at h
  split at h
  · next hb =>
    obtain rfl := Option.some.inj h
    exact rsame34_c w A0 c0 l0 A1 c1 l1 hr0 hc0 hr1 hc1 hb
  · cases h
end Go.Proofs.Ytiaoppikdgoieaa.M
namespace Go.Proofs.Ytiaoppikdgoieaa.M
open Go.RowKit Go.Proofs.YtiaoppikdgoieaaW.PrintWords Go.Proofs.YtiaoppikdgoieaaW.PrintLast Go.Proofs.YtiaoppikdgoieaaW.PrintMore Go.Proofs.Ytiaoppikdgoieaa.Hand
attribute [local go_sem] max2_int min2_int max_two min_two max_three min_three max_four min_four
set_option linter.unusedVariables false
set_option linter.unusedSimpArgs false

/-! ### sennitlaw10_ZealTwice: function 11 -/
def sennitlaw10_ZealTwice.f (k : Nat) (l0 : List (S27)) (a1 : Int) : Option (Bool) := (sennitlaw10_awake.f k).bind fun t514 => ((sennitref07_Few.f k l0).bind fun t515 => (if t515 = true then (if (wrap64 ((l0.length : Int) + 1)) = 0 then (none) else ((zeal_Zeal.f k l0).bind fun t516 => ((some (([] : List (S27)) : List (S27))).bind fun y519 => (if 0 ≤ (Int.tmod (wrap64 (a1)) (wrap64 ((l0.length : Int) + 1))) then (if (Int.tmod (wrap64 (a1)) (wrap64 ((l0.length : Int) + 1))) ≤ (l0.length : Int) then ((zeal_Zeal.f k (l0.take ((Int.tmod (wrap64 (a1)) (wrap64 ((l0.length : Int) + 1))) : Int).toNat)).bind fun t526 => (if y519.length + t526.length < 1759218604441 then ((some (y519 ++ t526 : List (S27))).bind fun y529 => ((zeal_Zeal.f k (l0.drop ((Int.tmod (wrap64 (a1)) (wrap64 ((l0.length : Int) + 1))) : Int).toNat)).bind fun t536 => (if y529.length + t536.length < 1759218604441 then (if t514 = true then ((zeal_Zeal.f k t516).bind fun t542 => ((sennitref07_Same.f k t542 t516).bind fun t545 => (if t545 = true then ((pick_Normal.f k (y529 ++ t536)).bind fun t546 => ((sennitref07_Same.f k t546 t516).bind fun t549 => (if t549 = true then ((sennitref07_Clean.f k l0).bind fun t550 => (if t550 = true then ((sennitref07_Normal.f k l0).bind fun t551 => ((sennitref07_Same.f k t516 t551).bind fun t554 => (some t554))) else (some true))) else (none)))) else (none)))) else (none)) else (none)))) else (none))) else (none)) else (none))))) else (some t514)))
theorem sennitlaw10_ZealTwice.mono : ∀ a0 a1 k, LeO (sennitlaw10_ZealTwice.f k a0 a1) (sennitlaw10_ZealTwice.f (k + 1) a0 a1) := by
  intro a0 a1 k
  unfold sennitlaw10_ZealTwice.f
  repeat' first
      | (with_reducible exact pick_Normal.mono _ _)
      | (with_reducible exact sennitlaw10_awake.mono _)
      | (with_reducible exact sennitref07_Clean.mono _ _)
      | (with_reducible exact sennitref07_Few.mono _ _)
      | (with_reducible exact sennitref07_Normal.mono _ _)
      | (with_reducible exact sennitref07_Same.mono _ _ _)
      | (with_reducible exact zeal_Zeal.mono _ _)
      | (with_reducible exact LeO.refl _)
      | (with_reducible exact LeO.none _)
      | (with_reducible refine LeO.ite ?_ ?_)
      | (with_reducible refine LeO.bind ?_ (fun _ => ?_))
      | exact pick_Normal.mono _ _
      | exact sennitlaw10_awake.mono _
      | exact sennitref07_Clean.mono _ _
      | exact sennitref07_Few.mono _ _
      | exact sennitref07_Normal.mono _ _
      | exact sennitref07_Same.mono _ _ _
      | exact zeal_Zeal.mono _ _
      | exact LeO.none _
      | refine LeO.ite ?_ ?_
      | refine LeO.bind ?_ (fun _ => ?_)
def sennitlaw10_ZealTwice.T6 : Bool × List (List Nat × List Nat) := (true, [([], []), ([], []), ([], []), ([1, 2], [1, 2]), ([3], [3]), ([0, 4, 4], [0, 4]), ([], []), ([], []), ([6, 7], [6, 7]), ([8, 5], [8]), ([5, 9, 9], [5, 9]), ([10, 10, 0, 1, 2, 3, 4, 5, 6, 7, 8, 9, 10], [10])])
def sennitlaw10_ZealTwice.B6 : List Nat := [0, 0, 0, 6, 14, 31, 0, 0, 192, 511, 1023, 2047]
theorem sennitlaw10_ZealTwice.tab6 : rtab .any (opsOf Try.f11 6) = sennitlaw10_ZealTwice.T6 := by kernel_rfl
theorem sennitlaw10_ZealTwice.bits6 : waitsOk sennitlaw10_ZealTwice.T6.2 sennitlaw10_ZealTwice.B6 = true := by kernel_rfl
set_option maxHeartbeats 8000000 in
set_option maxRecDepth 100000 in
theorem sennitlaw10_ZealTwice.calls (k : Nat) (A0 : Option Addr) (c0 : Nat) (l0 : List (S27)) (a1 : Int) (r : Bool) (w : World) (hr0 : Kd.C k27 w A0 l0.length l0) (hc0 : l0.length ≤ c0) (h : sennitlaw10_ZealTwice.f k l0 a1 = some r) :
    Calls Try.prog 11 #[.slice A0 l0.length c0, .int .u8 a1] w fun e w' => e = .returned (.bool r) ∧ Below w.heap.size w w' := by
  have HR0 := am hr0
  have HC0 := am hc0
  clear hr0 hc0
  have HB := am (Below.refl w.heap.size w)
  have H : ((sennitlaw10_awake.f k).bind fun t514 => ((sennitref07_Few.f k l0).bind fun t515 => (if t515 = true then (if (wrap64 ((l0.length : Int) + 1)) = 0 then (none) else ((zeal_Zeal.f k l0).bind fun t516 => ((some (([] : List (S27)) : List (S27))).bind fun y519 => (if 0 ≤ (Int.tmod (wrap64 (a1)) (wrap64 ((l0.length : Int) + 1))) then (if (Int.tmod (wrap64 (a1)) (wrap64 ((l0.length : Int) + 1))) ≤ (l0.length : Int) then ((zeal_Zeal.f k (l0.take ((Int.tmod (wrap64 (a1)) (wrap64 ((l0.length : Int) + 1))) : Int).toNat)).bind fun t526 => (if y519.length + t526.length < 1759218604441 then ((some (y519 ++ t526 : List (S27))).bind fun y529 => ((zeal_Zeal.f k (l0.drop ((Int.tmod (wrap64 (a1)) (wrap64 ((l0.length : Int) + 1))) : Int).toNat)).bind fun t536 => (if y529.length + t536.length < 1759218604441 then (if t514 = true then ((zeal_Zeal.f k t516).bind fun t542 => ((sennitref07_Same.f k t542 t516).bind fun t545 => (if t545 = true then ((pick_Normal.f k (y529 ++ t536)).bind fun t546 => ((sennitref07_Same.f k t546 t516).bind fun t549 => (if t549 = true then ((sennitref07_Clean.f k l0).bind fun t550 => (if t550 = true then ((sennitref07_Normal.f k l0).bind fun t551 => ((sennitref07_Same.f k t516 t551).bind fun t554 => (some t554))) else (some true))) else (none)))) else (none)))) else (none)) else (none)))) else (none))) else (none)) else (none))))) else (some t514)))) = some r := h
  clear h
  replace H := Option.bind_eq_some_iff.mp H
  obtain ⟨t514, A30, H⟩ := H
  replace H : ((sennitref07_Few.f k l0).bind fun t515 => (if t515 = true then (if (wrap64 ((l0.length : Int) + 1)) = 0 then (none) else ((zeal_Zeal.f k l0).bind fun t516 => ((some (([] : List (S27)) : List (S27))).bind fun y519 => (if 0 ≤ (Int.tmod (wrap64 (a1)) (wrap64 ((l0.length : Int) + 1))) then (if (Int.tmod (wrap64 (a1)) (wrap64 ((l0.length : Int) + 1))) ≤ (l0.length : Int) then ((zeal_Zeal.f k (l0.take ((Int.tmod (wrap64 (a1)) (wrap64 ((l0.length : Int) + 1))) : Int).toNat)).bind fun t526 => (if y519.length + t526.length < 1759218604441 then ((some (y519 ++ t526 : List (S27))).bind fun y529 => ((zeal_Zeal.f k (l0.drop ((Int.tmod (wrap64 (a1)) (wrap64 ((l0.length : Int) + 1))) : Int).toNat)).bind fun t536 => (if y529.length + t536.length < 1759218604441 then (if t514 = true then ((zeal_Zeal.f k t516).bind fun t542 => ((sennitref07_Same.f k t542 t516).bind fun t545 => (if t545 = true then ((pick_Normal.f k (y529 ++ t536)).bind fun t546 => ((sennitref07_Same.f k t546 t516).bind fun t549 => (if t549 = true then ((sennitref07_Clean.f k l0).bind fun t550 => (if t550 = true then ((sennitref07_Normal.f k l0).bind fun t551 => ((sennitref07_Same.f k t516 t551).bind fun t554 => (some t554))) else (some true))) else (none)))) else (none)))) else (none)) else (none)))) else (none))) else (none)) else (none))))) else (some t514))) = some r := H
  have A3 := am A30
  clear A30
  replace H := Option.bind_eq_some_iff.mp H
  obtain ⟨t515, A40, H⟩ := H
  replace H : (if t515 = true then (if (wrap64 ((l0.length : Int) + 1)) = 0 then (none) else ((zeal_Zeal.f k l0).bind fun t516 => ((some (([] : List (S27)) : List (S27))).bind fun y519 => (if 0 ≤ (Int.tmod (wrap64 (a1)) (wrap64 ((l0.length : Int) + 1))) then (if (Int.tmod (wrap64 (a1)) (wrap64 ((l0.length : Int) + 1))) ≤ (l0.length : Int) then ((zeal_Zeal.f k (l0.take ((Int.tmod (wrap64 (a1)) (wrap64 ((l0.length : Int) + 1))) : Int).toNat)).bind fun t526 => (if y519.length + t526.length < 1759218604441 then ((some (y519 ++ t526 : List (S27))).bind fun y529 => ((zeal_Zeal.f k (l0.drop ((Int.tmod (wrap64 (a1)) (wrap64 ((l0.length : Int) + 1))) : Int).toNat)).bind fun t536 => (if y529.length + t536.length < 1759218604441 then (if t514 = true then ((zeal_Zeal.f k t516).bind fun t542 => ((sennitref07_Same.f k t542 t516).bind fun t545 => (if t545 = true then ((pick_Normal.f k (y529 ++ t536)).bind fun t546 => ((sennitref07_Same.f k t546 t516).bind fun t549 => (if t549 = true then ((sennitref07_Clean.f k l0).bind fun t550 => (if t550 = true then ((sennitref07_Normal.f k l0).bind fun t551 => ((sennitref07_Same.f k t516 t551).bind fun t554 => (some t554))) else (some true))) else (none)))) else (none)))) else (none)) else (none)))) else (none))) else (none)) else (none))))) else (some t514)) = some r := H
  have A4 := am A40
  clear A40
  by_cases c5 : t515 = true
  · subst c5
    have H1 : (if (wrap64 ((l0.length : Int) + 1)) = 0 then (none) else ((zeal_Zeal.f k l0).bind fun t516 => ((some (([] : List (S27)) : List (S27))).bind fun y519 => (if 0 ≤ (Int.tmod (wrap64 (a1)) (wrap64 ((l0.length : Int) + 1))) then (if (Int.tmod (wrap64 (a1)) (wrap64 ((l0.length : Int) + 1))) ≤ (l0.length : Int) then ((zeal_Zeal.f k (l0.take ((Int.tmod (wrap64 (a1)) (wrap64 ((l0.length : Int) + 1))) : Int).toNat)).bind fun t526 => (if y519.length + t526.length < 1759218604441 then ((some (y519 ++ t526 : List (S27))).bind fun y529 => ((zeal_Zeal.f k (l0.drop ((Int.tmod (wrap64 (a1)) (wrap64 ((l0.length : Int) + 1))) : Int).toNat)).bind fun t536 => (if y529.length + t536.length < 1759218604441 then (if t514 = true then ((zeal_Zeal.f k t516).bind fun t542 => ((sennitref07_Same.f k t542 t516).bind fun t545 => (if t545 = true then ((pick_Normal.f k (y529 ++ t536)).bind fun t546 => ((sennitref07_Same.f k t546 t516).bind fun t549 => (if t549 = true then ((sennitref07_Clean.f k l0).bind fun t550 => (if t550 = true then ((sennitref07_Normal.f k l0).bind fun t551 => ((sennitref07_Same.f k t516 t551).bind fun t554 => (some t554))) else (some true))) else (none)))) else (none)))) else (none)) else (none)))) else (none))) else (none)) else (none))))) = some r := by rw [if_pos rfl] at H; exact H
    clear H
    have H := H1
    clear H1
    by_cases c6 : (wrap64 ((l0.length : Int) + 1)) = 0
    · rw [if_pos c6] at H
      exact absurd H (by simp)
    · rw [if_neg c6] at H
      have c6b0 : ((wrap64 ((l0.length : Int) + 1)) == 0) = false := beq_eq_false_iff_ne.mpr c6
      have c6b1 : ((wrap64 ((l0.length : Int) + 1)) != 0) = true := bne_iff_ne.mpr c6
      replace H := Option.bind_eq_some_iff.mp H
      obtain ⟨t516, A70, H⟩ := H
      replace H : ((some (([] : List (S27)) : List (S27))).bind fun y519 => (if 0 ≤ (Int.tmod (wrap64 (a1)) (wrap64 ((l0.length : Int) + 1))) then (if (Int.tmod (wrap64 (a1)) (wrap64 ((l0.length : Int) + 1))) ≤ (l0.length : Int) then ((zeal_Zeal.f k (l0.take ((Int.tmod (wrap64 (a1)) (wrap64 ((l0.length : Int) + 1))) : Int).toNat)).bind fun t526 => (if y519.length + t526.length < 1759218604441 then ((some (y519 ++ t526 : List (S27))).bind fun y529 => ((zeal_Zeal.f k (l0.drop ((Int.tmod (wrap64 (a1)) (wrap64 ((l0.length : Int) + 1))) : Int).toNat)).bind fun t536 => (if y529.length + t536.length < 1759218604441 then (if t514 = true then ((zeal_Zeal.f k t516).bind fun t542 => ((sennitref07_Same.f k t542 t516).bind fun t545 => (if t545 = true then ((pick_Normal.f k (y529 ++ t536)).bind fun t546 => ((sennitref07_Same.f k t546 t516).bind fun t549 => (if t549 = true then ((sennitref07_Clean.f k l0).bind fun t550 => (if t550 = true then ((sennitref07_Normal.f k l0).bind fun t551 => ((sennitref07_Same.f k t516 t551).bind fun t554 => (some t554))) else (some true))) else (none)))) else (none)))) else (none)) else (none)))) else (none))) else (none)) else (none))) = some r := H
      have A7 := am A70
      clear A70
      obtain ⟨y519, hy519⟩ : ∃ y_ : List (S27), y_ = (([] : List (S27))) := ⟨_, rfl⟩
      replace H : (if 0 ≤ (Int.tmod (wrap64 (a1)) (wrap64 ((l0.length : Int) + 1))) then (if (Int.tmod (wrap64 (a1)) (wrap64 ((l0.length : Int) + 1))) ≤ (l0.length : Int) then ((zeal_Zeal.f k (l0.take ((Int.tmod (wrap64 (a1)) (wrap64 ((l0.length : Int) + 1))) : Int).toNat)).bind fun t526 => (if y519.length + t526.length < 1759218604441 then ((some (y519 ++ t526 : List (S27))).bind fun y529 => ((zeal_Zeal.f k (l0.drop ((Int.tmod (wrap64 (a1)) (wrap64 ((l0.length : Int) + 1))) : Int).toNat)).bind fun t536 => (if y529.length + t536.length < 1759218604441 then (if t514 = true then ((zeal_Zeal.f k t516).bind fun t542 => ((sennitref07_Same.f k t542 t516).bind fun t545 => (if t545 = true then ((pick_Normal.f k (y529 ++ t536)).bind fun t546 => ((sennitref07_Same.f k t546 t516).bind fun t549 => (if t549 = true then ((sennitref07_Clean.f k l0).bind fun t550 => (if t550 = true then ((sennitref07_Normal.f k l0).bind fun t551 => ((sennitref07_Same.f k t516 t551).bind fun t554 => (some t554))) else (some true))) else (none)))) else (none)))) else (none)) else (none)))) else (none))) else (none)) else (none)) = some r := by first | (rw [hy519]; with_reducible exact H) | (have H2_ := (Option.bind_some _ _).symm.trans H; rw [hy519]; with_reducible exact H2_) | (have H2_ := (Option.bind_some _ _).symm.trans H; with_reducible exact H2_) | with_reducible exact H | (rw [hy519]; exact H) | exact H
      have Ny519 := am hy519
      clear hy519
      obtain ⟨ji8, hji8⟩ : ∃ j_ : Int, (Int.tmod (wrap64 (a1)) (wrap64 ((l0.length : Int) + 1))) = j_ := ⟨_, rfl⟩
      replace H : (if 0 ≤ (ji8) then (if (ji8) ≤ (l0.length : Int) then ((zeal_Zeal.f k (l0.take ((ji8) : Int).toNat)).bind fun t526 => (if y519.length + t526.length < 1759218604441 then ((some (y519 ++ t526 : List (S27))).bind fun y529 => ((zeal_Zeal.f k (l0.drop ((ji8) : Int).toNat)).bind fun t536 => (if y529.length + t536.length < 1759218604441 then (if t514 = true then ((zeal_Zeal.f k t516).bind fun t542 => ((sennitref07_Same.f k t542 t516).bind fun t545 => (if t545 = true then ((pick_Normal.f k (y529 ++ t536)).bind fun t546 => ((sennitref07_Same.f k t546 t516).bind fun t549 => (if t549 = true then ((sennitref07_Clean.f k l0).bind fun t550 => (if t550 = true then ((sennitref07_Normal.f k l0).bind fun t551 => ((sennitref07_Same.f k t516 t551).bind fun t554 => (some t554))) else (some true))) else (none)))) else (none)))) else (none)) else (none)))) else (none))) else (none)) else (none)) = some r := by first | (rw [hji8] at H; exact H) | (simp only [hji8] at H ⊢; exact H)
      (try rw [hji8] at A3)
      (try rw [hji8] at A4)
      (try rw [hji8] at A7)
      by_cases c9 : 0 ≤ (ji8)
      · rw [if_pos c9] at H
        have c9b0 := eq_true c9
        have c9b1 : decide (0 ≤ (ji8)) = true := decide_eq_true c9
        clear c9
        by_cases c10 : (ji8) ≤ (l0.length : Int)
        · rw [if_pos c10] at H
          have c10b0 := eq_true c10
          have c10b1 : decide ((ji8) ≤ (l0.length : Int)) = true := decide_eq_true c10
          clear c10
          obtain ⟨y522, hy522⟩ : ∃ y_ : List (S27), y_ = (l0.take ((ji8) : Int).toNat) := ⟨_, rfl⟩
          replace H : ((zeal_Zeal.f k y522).bind fun t526 => (if y519.length + t526.length < 1759218604441 then ((some (y519 ++ t526 : List (S27))).bind fun y529 => ((zeal_Zeal.f k (l0.drop ((ji8) : Int).toNat)).bind fun t536 => (if y529.length + t536.length < 1759218604441 then (if t514 = true then ((zeal_Zeal.f k t516).bind fun t542 => ((sennitref07_Same.f k t542 t516).bind fun t545 => (if t545 = true then ((pick_Normal.f k (y529 ++ t536)).bind fun t546 => ((sennitref07_Same.f k t546 t516).bind fun t549 => (if t549 = true then ((sennitref07_Clean.f k l0).bind fun t550 => (if t550 = true then ((sennitref07_Normal.f k l0).bind fun t551 => ((sennitref07_Same.f k t516 t551).bind fun t554 => (some t554))) else (some true))) else (none)))) else (none)))) else (none)) else (none)))) else (none))) = some r := by first | (rw [hy522]; with_reducible exact H) | (have H2_ := (Option.bind_some _ _).symm.trans H; rw [hy522]; with_reducible exact H2_) | (have H2_ := (Option.bind_some _ _).symm.trans H; with_reducible exact H2_) | with_reducible exact H | (rw [hy522]; exact H) | exact H
          have Ny522 := am hy522
          clear hy522
          replace H := Option.bind_eq_some_iff.mp H
          obtain ⟨t526, A110, H⟩ := H
          replace H : (if y519.length + t526.length < 1759218604441 then ((some (y519 ++ t526 : List (S27))).bind fun y529 => ((zeal_Zeal.f k (l0.drop ((ji8) : Int).toNat)).bind fun t536 => (if y529.length + t536.length < 1759218604441 then (if t514 = true then ((zeal_Zeal.f k t516).bind fun t542 => ((sennitref07_Same.f k t542 t516).bind fun t545 => (if t545 = true then ((pick_Normal.f k (y529 ++ t536)).bind fun t546 => ((sennitref07_Same.f k t546 t516).bind fun t549 => (if t549 = true then ((sennitref07_Clean.f k l0).bind fun t550 => (if t550 = true then ((sennitref07_Normal.f k l0).bind fun t551 => ((sennitref07_Same.f k t516 t551).bind fun t554 => (some t554))) else (some true))) else (none)))) else (none)))) else (none)) else (none)))) else (none)) = some r := H
          have A11 := am A110
          clear A110
          by_cases c12 : y519.length + t526.length < 1759218604441
          · rw [if_pos c12] at H
            have LMc12 := am c12
            clear c12
            obtain ⟨y529, hy529⟩ : ∃ y_ : List (S27), y_ = (y519 ++ t526) := ⟨_, rfl⟩
            replace H : ((zeal_Zeal.f k (l0.drop ((ji8) : Int).toNat)).bind fun t536 => (if y529.length + t536.length < 1759218604441 then (if t514 = true then ((zeal_Zeal.f k t516).bind fun t542 => ((sennitref07_Same.f k t542 t516).bind fun t545 => (if t545 = true then ((pick_Normal.f k (y529 ++ t536)).bind fun t546 => ((sennitref07_Same.f k t546 t516).bind fun t549 => (if t549 = true then ((sennitref07_Clean.f k l0).bind fun t550 => (if t550 = true then ((sennitref07_Normal.f k l0).bind fun t551 => ((sennitref07_Same.f k t516 t551).bind fun t554 => (some t554))) else (some true))) else (none)))) else (none)))) else (none)) else (none))) = some r := by first | (rw [hy529]; with_reducible exact H) | (have H2_ := (Option.bind_some _ _).symm.trans H; rw [hy529]; with_reducible exact H2_) | (have H2_ := (Option.bind_some _ _).symm.trans H; with_reducible exact H2_) | with_reducible exact H | (rw [hy529]; exact H) | exact H
            have Ny529 := am hy529
            clear hy529
            have c13b0 := eq_true (of_decide_eq_true (by first | (with_reducible assumption) | assumption) : 0 ≤ (ji8))
            have c14b0 := eq_true (of_decide_eq_true (by first | (with_reducible assumption) | assumption) : (ji8) ≤ (l0.length : Int))
            obtain ⟨y532, hy532⟩ : ∃ y_ : List (S27), y_ = (l0.drop ((ji8) : Int).toNat) := ⟨_, rfl⟩
            replace H : ((zeal_Zeal.f k y532).bind fun t536 => (if y529.length + t536.length < 1759218604441 then (if t514 = true then ((zeal_Zeal.f k t516).bind fun t542 => ((sennitref07_Same.f k t542 t516).bind fun t545 => (if t545 = true then ((pick_Normal.f k (y529 ++ t536)).bind fun t546 => ((sennitref07_Same.f k t546 t516).bind fun t549 => (if t549 = true then ((sennitref07_Clean.f k l0).bind fun t550 => (if t550 = true then ((sennitref07_Normal.f k l0).bind fun t551 => ((sennitref07_Same.f k t516 t551).bind fun t554 => (some t554))) else (some true))) else (none)))) else (none)))) else (none)) else (none))) = some r := by first | (rw [hy532]; with_reducible exact H) | (have H2_ := (Option.bind_some _ _).symm.trans H; rw [hy532]; with_reducible exact H2_) | (have H2_ := (Option.bind_some _ _).symm.trans H; with_reducible exact H2_) | with_reducible exact H | (rw [hy532]; exact H) | exact H
            have Ny532 := am hy532
            clear hy532
            replace H := Option.bind_eq_some_iff.mp H
            obtain ⟨t536, A150, H⟩ := H
            replace H : (if y529.length + t536.length < 1759218604441 then (if t514 = true then ((zeal_Zeal.f k t516).bind fun t542 => ((sennitref07_Same.f k t542 t516).bind fun t545 => (if t545 = true then ((pick_Normal.f k (y529 ++ t536)).bind fun t546 => ((sennitref07_Same.f k t546 t516).bind fun t549 => (if t549 = true then ((sennitref07_Clean.f k l0).bind fun t550 => (if t550 = true then ((sennitref07_Normal.f k l0).bind fun t551 => ((sennitref07_Same.f k t516 t551).bind fun t554 => (some t554))) else (some true))) else (none)))) else (none)))) else (none)) else (none)) = some r := H
            have A15 := am A150
            clear A150
            by_cases c16 : y529.length + t536.length < 1759218604441
            · rw [if_pos c16] at H
              have LMc16 := am c16
              clear c16
              obtain ⟨y539, hy539⟩ : ∃ y_ : List (S27), y_ = (y529 ++ t536) := ⟨_, rfl⟩
              replace H : (if t514 = true then ((zeal_Zeal.f k t516).bind fun t542 => ((sennitref07_Same.f k t542 t516).bind fun t545 => (if t545 = true then ((pick_Normal.f k y539).bind fun t546 => ((sennitref07_Same.f k t546 t516).bind fun t549 => (if t549 = true then ((sennitref07_Clean.f k l0).bind fun t550 => (if t550 = true then ((sennitref07_Normal.f k l0).bind fun t551 => ((sennitref07_Same.f k t516 t551).bind fun t554 => (some t554))) else (some true))) else (none)))) else (none)))) else (none)) = some r := by first | (rw [hy539]; with_reducible exact H) | (have H2_ := (Option.bind_some _ _).symm.trans H; rw [hy539]; with_reducible exact H2_) | (have H2_ := (Option.bind_some _ _).symm.trans H; with_reducible exact H2_) | with_reducible exact H | (rw [hy539]; exact H) | exact H
              have Ny539 := am hy539
              clear hy539
              by_cases c17 : t514 = true
              · subst c17
                have H1 : ((zeal_Zeal.f k t516).bind fun t542 => ((sennitref07_Same.f k t542 t516).bind fun t545 => (if t545 = true then ((pick_Normal.f k y539).bind fun t546 => ((sennitref07_Same.f k t546 t516).bind fun t549 => (if t549 = true then ((sennitref07_Clean.f k l0).bind fun t550 => (if t550 = true then ((sennitref07_Normal.f k l0).bind fun t551 => ((sennitref07_Same.f k t516 t551).bind fun t554 => (some t554))) else (some true))) else (none)))) else (none)))) = some r := by rw [if_pos rfl] at H; exact H
                clear H
                have H := H1
                clear H1
                replace H := Option.bind_eq_some_iff.mp H
                obtain ⟨t542, A180, H⟩ := H
                replace H : ((sennitref07_Same.f k t542 t516).bind fun t545 => (if t545 = true then ((pick_Normal.f k y539).bind fun t546 => ((sennitref07_Same.f k t546 t516).bind fun t549 => (if t549 = true then ((sennitref07_Clean.f k l0).bind fun t550 => (if t550 = true then ((sennitref07_Normal.f k l0).bind fun t551 => ((sennitref07_Same.f k t516 t551).bind fun t554 => (some t554))) else (some true))) else (none)))) else (none))) = some r := H
                have A18 := am A180
                clear A180
                replace H := Option.bind_eq_some_iff.mp H
                obtain ⟨t545, A190, H⟩ := H
                replace H : (if t545 = true then ((pick_Normal.f k y539).bind fun t546 => ((sennitref07_Same.f k t546 t516).bind fun t549 => (if t549 = true then ((sennitref07_Clean.f k l0).bind fun t550 => (if t550 = true then ((sennitref07_Normal.f k l0).bind fun t551 => ((sennitref07_Same.f k t516 t551).bind fun t554 => (some t554))) else (some true))) else (none)))) else (none)) = some r := H
                have A19 := am A190
                clear A190
                by_cases c20 : t545 = true
                · subst c20
                  have H1 : ((pick_Normal.f k y539).bind fun t546 => ((sennitref07_Same.f k t546 t516).bind fun t549 => (if t549 = true then ((sennitref07_Clean.f k l0).bind fun t550 => (if t550 = true then ((sennitref07_Normal.f k l0).bind fun t551 => ((sennitref07_Same.f k t516 t551).bind fun t554 => (some t554))) else (some true))) else (none)))) = some r := by rw [if_pos rfl] at H; exact H
                  clear H
                  have H := H1
                  clear H1
                  replace H := Option.bind_eq_some_iff.mp H
                  obtain ⟨t546, A210, H⟩ := H
                  replace H : ((sennitref07_Same.f k t546 t516).bind fun t549 => (if t549 = true then ((sennitref07_Clean.f k l0).bind fun t550 => (if t550 = true then ((sennitref07_Normal.f k l0).bind fun t551 => ((sennitref07_Same.f k t516 t551).bind fun t554 => (some t554))) else (some true))) else (none))) = some r := H
                  have A21 := am A210
                  clear A210
                  replace H := Option.bind_eq_some_iff.mp H
                  obtain ⟨t549, A220, H⟩ := H
                  replace H : (if t549 = true then ((sennitref07_Clean.f k l0).bind fun t550 => (if t550 = true then ((sennitref07_Normal.f k l0).bind fun t551 => ((sennitref07_Same.f k t516 t551).bind fun t554 => (some t554))) else (some true))) else (none)) = some r := H
                  have A22 := am A220
                  clear A220
                  by_cases c23 : t549 = true
                  · subst c23
                    have H1 : ((sennitref07_Clean.f k l0).bind fun t550 => (if t550 = true then ((sennitref07_Normal.f k l0).bind fun t551 => ((sennitref07_Same.f k t516 t551).bind fun t554 => (some t554))) else (some true))) = some r := by rw [if_pos rfl] at H; exact H
                    clear H
                    have H := H1
                    clear H1
                    replace H := Option.bind_eq_some_iff.mp H
                    obtain ⟨t550, A240, H⟩ := H
                    replace H : (if t550 = true then ((sennitref07_Normal.f k l0).bind fun t551 => ((sennitref07_Same.f k t516 t551).bind fun t554 => (some t554))) else (some true)) = some r := H
                    have A24 := am A240
                    clear A240
                    by_cases c25 : t550 = true
                    · subst c25
                      have H1 : ((sennitref07_Normal.f k l0).bind fun t551 => ((sennitref07_Same.f k t516 t551).bind fun t554 => (some t554))) = some r := by rw [if_pos rfl] at H; exact H
                      clear H
                      have H := H1
                      clear H1
                      replace H := Option.bind_eq_some_iff.mp H
                      obtain ⟨t551, A260, H⟩ := H
                      replace H : ((sennitref07_Same.f k t516 t551).bind fun t554 => (some t554)) = some r := H
                      have A26 := am A260
                      clear A260
                      replace H := Option.bind_eq_some_iff.mp H
                      obtain ⟨t554, A270, H⟩ := H
                      replace H : (some t554) = some r := H
                      have A27 := am A270
                      clear A270
                      obtain rfl := Option.some.inj H
                      go_enter Try.func11, Try.ntmps11
                      try go_wp2_with (first | ((with_reducible refine gate_callee (f := 35) rfl ?_); refine goesL_ (some 9) rfl rfl Try.func35 (by kernel_rfl) rfl #[] rfl (by (try simp only [List.map_toArray, List.map_cons, List.map_nil]); first | done | rfl | (simp only [List.length_drop, List.length_take]; rfl)) ?_; (with_reducible refine (sennitlaw10_awake.calls k  true _ A3.out).mono ?_); rintro e w28 ⟨rfl, hb⟩; refine ⟨_, rfl, ?_⟩; have n0_ := am (below_step (by repeat (with_reducible first | exact HB.out | apply bA | apply bN | apply bD)) hb); clear HB; have HB := n0_; clear n0_; (try clear hb); (try clear hb2); (try clear hk); (try clear hi)) | ((with_reducible refine gate_callee (f := 32) rfl ?_); refine goesL_ (some 11) rfl rfl Try.func32 (by kernel_rfl) rfl #[.slice A0 l0.length c0] rfl (by (try simp only [List.map_toArray, List.map_cons, List.map_nil]); first | done | rfl | (simp only [List.length_drop, List.length_take]; rfl)) ?_; (with_reducible refine (sennitref07_Few.calls k _ _ l0 true _ ?side1 ?side2 A4.out).mono ?_); (case side1 => repeat (first | exact (Kd.C_below HR0.out HB.out) | (with_reducible refine Kd.C_alloc ?_ _) | (with_reducible refine Kd.C_drewN ?_ _) | (with_reducible refine Kd.C_drew ?_))); (case side2 => exact HC0.out); rintro e w' ⟨rfl, ⟨nd, rfl⟩⟩; refine ⟨_, rfl, ?_⟩) | ((with_reducible refine gate_callee (f := 38) rfl ?_); refine goesL_ (some 21) rfl rfl Try.func38 (by kernel_rfl) rfl #[.slice A0 l0.length c0] rfl (by (try simp only [List.map_toArray, List.map_cons, List.map_nil]); first | done | rfl | (simp only [List.length_drop, List.length_take]; rfl)) ?_; (with_reducible refine (zeal_Zeal.calls k (fun k_ => k_ < w.heap.size) _ _ l0 t516 _ ?side1 A7.out).mono ?_); (case side1 => exact Kd.V_mk HC0.out (Kd.F_below (Kd.C_F k27_heap HR0.out) (by repeat (with_reducible first | exact HB.out | apply bA | apply bN | apply bD)))); rintro e w29 ⟨v517, rfl, ho0, hb⟩; refine ⟨_, rfl, ?_⟩; have n0_ := am (Kd.N_lower (Kd.N_mono (ok' := fun k_ => True) ho0 (fun k_ hk_ => trivial)) (below_size (by repeat (with_reducible first | exact HB.out | apply bA | apply bN | apply bD)))); have n1_ := am (below_step (by repeat (with_reducible first | exact HB.out | apply bA | apply bN | apply bD)) hb); clear HB; have HO518 := n0_; have HB := n1_; clear n0_ n1_; (try clear hb); (try clear hb2); (try clear hk); (try clear hi); (try clear ho0)))
                      have n0_ := am (Kd.N_drew HO518.out)
                      have n1_ := am (below_drew1 HB.out)
                      clear HO518
                      clear HB
                      have HO518 := n0_
                      have HB := n1_
                      clear n0_ n1_
                      have q31 : ((ji8) : Int) ≤ ((l0.length : Int) : Int) := of_decide_eq_true (by first | (with_reducible assumption) | assumption)
                      obtain ⟨i031, hi031, _, hsz31, _⟩ := info_parts info27
                      have hroom31 : l0.length ≤ c0 := HC0.out
                      have hC31 : Kd.C k27 _ A0 l0.length l0 := HR0.out
                      have hcut31 := cut_to (P := Try.prog) 48 27 .i64 Try.underlying48 hi031 A0 l0.length c0 (ji8) (of_decide_eq_true (by first | (with_reducible assumption) | assumption)) q31 hroom31
                      have hr31 := Kd.C_take (m := ((ji8) : Int).toNat) hC31 (by omega)
                      have hy31 : y522.length = ((ji8) : Int).toNat := (by rw [Ny522.out, List.length_take]; omega)
                      rw [← Ny522.out] at hr31
                      rw [← hy31] at hcut31
                      have HR525 := am hr31
                      have HC525 := am (show y522.length ≤ c0 from by omega)
                      clear hr31 hC31 hroom31 hi031 hsz31
                      have KY31 := am hy31
                      clear hy31
                      replace q31 := eq_true q31
                      have q32 : ((ji8) : Int) ≤ ((l0.length : Int) : Int) := of_decide_eq_true (by first | (with_reducible assumption) | assumption)
                      obtain ⟨i032, hi032, _, hsz32, _⟩ := info_parts info27
                      have hroom32 : l0.length ≤ c0 := HC0.out
                      have hC32 : Kd.C k27 _ A0 l0.length l0 := HR0.out
                      have q032 : (0 : Int) ≤ ((ji8) : Int) := of_decide_eq_true (by first | (with_reducible assumption) | assumption)
                      have hcut32 := cut_from (P := Try.prog) 48 27 .i64 Try.underlying48 hi032 4 hsz32 A0 l0.length c0 (ji8) q032 q32
                      have hr32 := Kd.C_drop (m := ((ji8) : Int).toNat) (c := c0) hC32 (by omega) hroom32
                      obtain ⟨A32, hA32⟩ : ∃ A1x_, A1x_ = (if c0 = ((ji8) : Int).toNat then A0 else (A0 : Option Addr).map (·.add (((ji8) : Int).toNat * 4))) := ⟨_, rfl⟩
                      obtain ⟨c32, hc32⟩ : ∃ c1x_, c1x_ = c0 - ((ji8) : Int).toNat := ⟨_, rfl⟩
                      have hy32 : y532.length = l0.length - ((ji8) : Int).toNat := (by rw [Ny532.out, List.length_drop] <;> omega)
                      rw [show (l0).drop ((ji8) : Int).toNat = y532 from Ny532.out.symm] at hr32
                      replace hr32 : Kd.C k27 _ A32 y532.length y532 := (by rw [hA32]; exact hr32)
                      rw [← hy32, ← hA32, ← hc32] at hcut32
                      have HR535 := am hr32
                      have HC535 := am (show y532.length ≤ c32 from by rw [hy32, hc32]; exact Nat.sub_le_sub_right hroom32 _)
                      clear hr32 hC32 hroom32 hi032 hsz32 hc32
                      have KY32 := am hy32
                      have KA32 := am hA32
                      clear hy32 hA32
                      replace q32 := eq_true q32
                      refine start_ (n := 12) (S := fun w' => True) (ds := []) #[false, false, false, false, false, false, false, false, false, false, false, false] (by kernel_rfl) rfl rfl trivial (fun hHeld => ?_); refine with_tabW sennitlaw10_ZealTwice.tab6 sennitlaw10_ZealTwice.bits6 (fun HT_ HW_ => ?_)
                      generalize w29.drew = w30 at HO518 HB HR525 HR535 hHeld ⊢
                      refine pure_ (i := 1) (N := some 23) (v := ?_) (a' := ?_) #[false, true, false, false, false, false, false, false, false, false, false, false] rfl rfl (any_of HT_.out (by kernel_rfl)) (fun _ _ _ h => h) (Or.inl ⟨by rfl, ?_⟩) ?_ ?_
                      rotate_left
                      · intro w'
                        go_simp
                        with_reducible rfl
                      rotate_left
                      · simp only [Act.put, List.setIfInBounds_toArray, List.set_cons_zero, List.set_cons_succ, i64_w, i32_w]
                        rfl
                      refine pure_ (i := 2) (N := some 24) (v := ?_) (a' := ?_) #[false, true, true, false, false, false, false, false, false, false, false, false] rfl rfl (any_of HT_.out (by kernel_rfl)) (fun _ _ _ h => h) (Or.inl ⟨by rfl, ?_⟩) ?_ ?_
                      rotate_left
                      · intro w'
                        go_simp
                        with_reducible rfl
                      rotate_left
                      · simp only [Act.put, List.setIfInBounds_toArray, List.set_cons_zero, List.set_cons_succ, i64_w, i32_w]
                        rfl
                      refine pure_ (i := 3) (N := some 25) (v := ?_) (a' := ?_) #[false, true, true, true, false, false, false, false, false, false, false, false] rfl rfl (any_of HT_.out (by kernel_rfl)) (fun _ _ _ h => h) (Or.inl ⟨by rfl, ?_⟩) ?_ ?_
                      rotate_left
                      · intro w'
                        go_simp
                        with_reducible rfl
                      rotate_left
                      · simp only [Act.put, List.setIfInBounds_toArray, List.set_cons_zero, List.set_cons_succ, i64_w, i32_w]
                        rfl
                      refine pure_ (i := 6) (N := some 28) (v := ?_) (a' := ?_) #[false, true, true, true, false, false, true, false, false, false, false, false] rfl rfl (any_of HT_.out (by kernel_rfl)) (fun _ _ _ h => h) (Or.inl ⟨by rfl, ?_⟩) ?_ ?_
                      rotate_left
                      · intro w'
                        go_simp
                        with_reducible rfl
                      rotate_left
                      · simp only [Act.put, List.setIfInBounds_toArray, List.set_cons_zero, List.set_cons_succ, i64_w, i32_w]
                        rfl
                      refine pure_ (i := 7) (N := some 29) (v := ?_) (a' := ?_) #[false, true, true, true, false, false, true, true, false, false, false, false] rfl rfl (any_of HT_.out (by kernel_rfl)) (fun _ _ _ h => h) (Or.inl ⟨by rfl, ?_⟩) ?_ ?_
                      rotate_left
                      · intro w'
                        go_simp
                        with_reducible rfl
                      rotate_left
                      · simp only [Act.put, List.setIfInBounds_toArray, List.set_cons_zero, List.set_cons_succ, i64_w, i32_w]
                        rfl
                      refine pure_ (i := 8) (N := some 30) (v := ?_) (a' := ?_) #[false, true, true, true, false, false, true, true, true, false, false, false] rfl rfl (any_of HT_.out (by kernel_rfl)) (fun _ _ _ h => h) (Or.inl ⟨by rfl, ?_⟩) ?_ ?_
                      rotate_left
                      · intro w'
                        go_simp
                        with_reducible rfl
                      rotate_left
                      · simp only [Act.put, List.setIfInBounds_toArray, List.set_cons_zero, List.set_cons_succ, i64_w, i32_w]
                        rfl
                      refine join_ (σ := Value × Value) 4 #[true, true, true, true, true, false, true, true, true, false, false, false] (fun s_ => [(22, s_.1), (26, s_.2)]) (fun s_ w' => (Kd.N k27 27 w' w.heap.size (fun k_ => some k_ ≠ (s_.1 : Value).ownBlock ∧ some k_ ≠ (s_.2 : Value).ownBlock) v517 t516) ∧ (Kd.N k27 27 w' w.heap.size (fun k_ => some k_ ≠ (v517 : Value).ownBlock ∧ some k_ ≠ (s_.2 : Value).ownBlock) s_.1 y519) ∧ (Kd.N k27 27 w' w.heap.size (fun k_ => some k_ ≠ (v517 : Value).ownBlock ∧ some k_ ≠ (s_.1 : Value).ownBlock) s_.2 t526) ∧ (Below w.heap.size w w')) ?_ ?_
                      rotate_left
                      · intro hCont
                        refine two_ (i := 0) (j := 4) (Ni := some 22) (Nj := some 26) #[true, true, true, true, false, false, true, true, true, false, false, false] #[false, true, true, true, true, false, true, true, true, false, false, false] rfl rfl rfl rfl (two_of HT_.out (by kernel_rfl)) (by decide) (by decide) (fun K hK => ?_) (fun K hK => ?_)
                        · skip
                          refine Kd.N_lit_step k27 _ 27 ?hg (N' := 22) ?hd (xs := ([] : List (S27))) (inner := []) (ok := (fun k_ => some k_ ≠ (v517 : Value).ownBlock)) (okp := (fun k_ => some k_ ≠ (v517 : Value).ownBlock)) ?hr ?hp (fun _ hk => hk) ((show ∀ k_, w30.heap.size ≤ k_ → (fun k_ => some k_ ≠ (v517 : Value).ownBlock) k_ from fun k_ hk => Kd.fresh' (Kd.N_lt (by (with_reducible repeat (first | apply nA | apply nN | apply nD)); exact HO518.out)) k_ hk) _ (Nat.le_refl _)) (Below.refl _ _) (Nat.le_refl _) (by simp) ?_; (case hd => rfl); (case hg => rfl); (case hr => first | (go_simp; done) | (go_simp; rfl)); (case hp => exact (Reps.none _ _))
                          intro v520 w33 ho34 hb hg_ hnew_
                          clear hg_ hnew_
                          rw [← Ny519.out] at ho34
                          have n0_ := am (Kd.N_elder' (by (with_reducible repeat (first | apply nA | apply nN | apply nD)); exact HO518.out) (Kd.N_base ho34) hb)
                          have n1_ := am (Kd.N_lower ho34 (below_size (by repeat (with_reducible first | exact HB.out | apply bA | apply bN | apply bD))))
                          have n2_ := am (below_step (by repeat (with_reducible first | exact HB.out | apply bA | apply bN | apply bD)) hb)
                          clear HO518
                          clear HB
                          have HO518 := n0_
                          have HO521 := n1_
                          have HB := n2_
                          clear n0_ n1_ n2_
                          clear hb ho34
                          refine hK.out _ _ trivial (fun hHeld => ?_)
                          clear hK K
                          refine norm_ (a' := ?_) ?_ ?_
                          rotate_left
                          · show Act.put _ (some 22) _ = _
                            simp only [Act.put, List.setIfInBounds_toArray, List.set_cons_zero, List.set_cons_succ, i64_w, i32_w]
                            rfl
                          refine one_ (i := 4) (N := some 26) #[true, true, true, true, true, false, true, true, true, false, false, false] rfl rfl (one_of HT_.out (by kernel_rfl)) (by decide) (fun K hK => ?_)
                          refine goes_ Try.func38 (by kernel_rfl) rfl #[.slice A0 y522.length c0] (by rfl) rfl rfl (by (try simp only [List.map_toArray, List.map_cons, List.map_nil]); first | done | rfl | (simp only [List.length_drop, List.length_take]; rfl)) ?_
                          with_reducible refine (zeal_Zeal.calls k (fun k_ => k_ < w.heap.size) _ _ y522 t526 _ ?side1 A11.out).mono ?_
                          (case side1 => exact Kd.V_mk HC525.out (Kd.F_below (Kd.C_F k27_heap HR525.out) (by repeat (with_reducible first | exact HB.out | apply bA | apply bN | apply bD))))
                          rintro e w35 ⟨v527, rfl, ho0, hb⟩
                          refine ⟨_, rfl, ?_⟩
                          have n0_ := am (Kd.N_elder' (by (with_reducible repeat (first | apply nA | apply nN | apply nD)); exact HO518.out) (Kd.N_base ho0) hb)
                          have n1_ := am (Kd.N_elder' (by (with_reducible repeat (first | apply nA | apply nN | apply nD)); exact HO521.out) (Kd.N_base ho0) hb)
                          have n2_ := am (Kd.N_lower (Kd.N_mono (ok' := fun k_ => some k_ ≠ (v517 : Value).ownBlock ∧ some k_ ≠ (v520 : Value).ownBlock) ho0 (fun k_ hk_ => ⟨Or.elim hk_ (fun hs_ => fun e_ => Nat.not_le.2 hs_ (Kd.N_base HO518.out k_ e_.symm)) (fun hn_ => (Kd.fresh' (Kd.N_lt (by (with_reducible repeat (first | apply nA | apply nN | apply nD)); exact HO518.out)) k_ hn_)), Or.elim hk_ (fun hs_ => fun e_ => Nat.not_le.2 hs_ (Kd.N_base HO521.out k_ e_.symm)) (fun hn_ => (Kd.fresh' (Kd.N_lt (by (with_reducible repeat (first | apply nA | apply nN | apply nD)); exact HO521.out)) k_ hn_))⟩)) (below_size (by repeat (with_reducible first | exact HB.out | apply bA | apply bN | apply bD))))
                          have n3_ := am (below_step (by repeat (with_reducible first | exact HB.out | apply bA | apply bN | apply bD)) hb)
                          clear HO518
                          clear HO521
                          clear HB
                          have HO518 := n0_
                          have HO521 := n1_
                          have HO528 := n2_
                          have HB := n3_
                          clear n0_ n1_ n2_ n3_
                          (try clear hb)
                          (try clear hb2)
                          (try clear hk)
                          (try clear hi)
                          (try clear ho0)
                          refine hK.out _ _ trivial (fun hHeld => ?_)
                          clear hK K
                          refine norm_ (a' := ?_) ?_ ?_
                          rotate_left
                          · show Act.put _ (some 26) _ = _
                            simp only [Act.put, List.setIfInBounds_toArray, List.set_cons_zero, List.set_cons_succ, i64_w, i32_w]
                            rfl
                          exact norm_ (by simp only [putAll, Act.put, List.setIfInBounds_toArray, List.set_cons_zero, List.set_cons_succ]) (hCont (v520, v527) _ ⟨(by (with_reducible repeat (first | apply nA | apply nN | apply nD)); exact Kd.N_mono HO518.out (fun _ hk => ⟨hk.1.2, hk.2⟩)), (by (with_reducible repeat (first | apply nA | apply nN | apply nD)); exact HO521.out), (by (with_reducible repeat (first | apply nA | apply nN | apply nD)); exact HO528.out), (by repeat (with_reducible first | exact HB.out | apply bA | apply bN | apply bD))⟩)
                        · skip
                          refine goes_ Try.func38 (by kernel_rfl) rfl #[.slice A0 y522.length c0] (by rfl) rfl rfl (by (try simp only [List.map_toArray, List.map_cons, List.map_nil]); first | done | rfl | (simp only [List.length_drop, List.length_take]; rfl)) ?_
                          with_reducible refine (zeal_Zeal.calls k (fun k_ => k_ < w.heap.size) _ _ y522 t526 _ ?side1 A11.out).mono ?_
                          (case side1 => exact Kd.V_mk HC525.out (Kd.F_below (Kd.C_F k27_heap HR525.out) (by repeat (with_reducible first | exact HB.out | apply bA | apply bN | apply bD))))
                          rintro e w33 ⟨v527, rfl, ho0, hb⟩
                          refine ⟨_, rfl, ?_⟩
                          have n0_ := am (Kd.N_elder' (by (with_reducible repeat (first | apply nA | apply nN | apply nD)); exact HO518.out) (Kd.N_base ho0) hb)
                          have n1_ := am (Kd.N_lower (Kd.N_mono (ok' := fun k_ => some k_ ≠ (v517 : Value).ownBlock) ho0 (fun k_ hk_ => Or.elim hk_ (fun hs_ => fun e_ => Nat.not_le.2 hs_ (Kd.N_base HO518.out k_ e_.symm)) (fun hn_ => (Kd.fresh' (Kd.N_lt (by (with_reducible repeat (first | apply nA | apply nN | apply nD)); exact HO518.out)) k_ hn_)))) (below_size (by repeat (with_reducible first | exact HB.out | apply bA | apply bN | apply bD))))
                          have n2_ := am (below_step (by repeat (with_reducible first | exact HB.out | apply bA | apply bN | apply bD)) hb)
                          clear HO518
                          clear HB
                          have HO518 := n0_
                          have HO528 := n1_
                          have HB := n2_
                          clear n0_ n1_ n2_
                          (try clear hb)
                          (try clear hb2)
                          (try clear hk)
                          (try clear hi)
                          (try clear ho0)
                          refine hK.out _ _ trivial (fun hHeld => ?_)
                          clear hK K
                          refine norm_ (a' := ?_) ?_ ?_
                          rotate_left
                          · show Act.put _ (some 26) _ = _
                            simp only [Act.put, List.setIfInBounds_toArray, List.set_cons_zero, List.set_cons_succ, i64_w, i32_w]
                            rfl
                          refine one_ (i := 0) (N := some 22) #[true, true, true, true, true, false, true, true, true, false, false, false] rfl rfl (one_of HT_.out (by kernel_rfl)) (by decide) (fun K hK => ?_)
                          refine Kd.N_lit_step k27 _ 27 ?hg (N' := 22) ?hd (xs := ([] : List (S27))) (inner := []) (ok := (fun k_ => some k_ ≠ (v517 : Value).ownBlock ∧ some k_ ≠ (v527 : Value).ownBlock)) (okp := (fun k_ => some k_ ≠ (v517 : Value).ownBlock ∧ some k_ ≠ (v527 : Value).ownBlock)) ?hr ?hp (fun _ hk => hk) ((show ∀ k_, w33.heap.size ≤ k_ → (fun k_ => some k_ ≠ (v517 : Value).ownBlock ∧ some k_ ≠ (v527 : Value).ownBlock) k_ from fun k_ hk => ⟨Kd.fresh' (Kd.N_lt (by (with_reducible repeat (first | apply nA | apply nN | apply nD)); exact HO518.out)) k_ hk, Kd.fresh' (Kd.N_lt (by (with_reducible repeat (first | apply nA | apply nN | apply nD)); exact HO528.out)) k_ hk⟩) _ (Nat.le_refl _)) (Below.refl _ _) (Nat.le_refl _) (by simp) ?_; (case hd => rfl); (case hg => rfl); (case hr => first | (go_simp; done) | (go_simp; rfl)); (case hp => exact (Reps.none _ _))
                          intro v520 w34 ho35 hb hg_ hnew_
                          clear hg_ hnew_
                          rw [← Ny519.out] at ho35
                          have n0_ := am (Kd.N_elder' (by (with_reducible repeat (first | apply nA | apply nN | apply nD)); exact HO518.out) (Kd.N_base ho35) hb)
                          have n1_ := am (Kd.N_elder' (by (with_reducible repeat (first | apply nA | apply nN | apply nD)); exact HO528.out) (Kd.N_base ho35) hb)
                          have n2_ := am (Kd.N_lower ho35 (below_size (by repeat (with_reducible first | exact HB.out | apply bA | apply bN | apply bD))))
                          have n3_ := am (below_step (by repeat (with_reducible first | exact HB.out | apply bA | apply bN | apply bD)) hb)
                          clear HO518
                          clear HO528
                          clear HB
                          have HO518 := n0_
                          have HO528 := n1_
                          have HO521 := n2_
                          have HB := n3_
                          clear n0_ n1_ n2_ n3_
                          clear hb ho35
                          refine hK.out _ _ trivial (fun hHeld => ?_)
                          clear hK K
                          refine norm_ (a' := ?_) ?_ ?_
                          rotate_left
                          · show Act.put _ (some 22) _ = _
                            simp only [Act.put, List.setIfInBounds_toArray, List.set_cons_zero, List.set_cons_succ, i64_w, i32_w]
                            rfl
                          exact norm_ (by simp only [putAll, Act.put, List.setIfInBounds_toArray, List.set_cons_zero, List.set_cons_succ]) (hCont (v520, v527) _ ⟨(by (with_reducible repeat (first | apply nA | apply nN | apply nD)); exact Kd.N_mono HO518.out (fun _ hk => ⟨hk.2, hk.1.2⟩)), (by (with_reducible repeat (first | apply nA | apply nN | apply nD)); exact HO521.out), (by (with_reducible repeat (first | apply nA | apply nN | apply nD)); exact HO528.out), (by repeat (with_reducible first | exact HB.out | apply bA | apply bN | apply bD))⟩)
                      rintro ⟨v520, v527⟩ w36 ⟨h0_, h1_, h2_, h3_⟩
                      have n0_ : Aside0 (Kd.N k27 27 w36 w.heap.size (fun k_ => some k_ ≠ (v520 : Value).ownBlock ∧ some k_ ≠ (v527 : Value).ownBlock) v517 t516) := ⟨h0_⟩
                      have n1_ : Aside0 (Kd.N k27 27 w36 w.heap.size (fun k_ => some k_ ≠ (v517 : Value).ownBlock ∧ some k_ ≠ (v527 : Value).ownBlock) v520 y519) := ⟨h1_⟩
                      have n2_ : Aside0 (Kd.N k27 27 w36 w.heap.size (fun k_ => some k_ ≠ (v517 : Value).ownBlock ∧ some k_ ≠ (v520 : Value).ownBlock) v527 t526) := ⟨h2_⟩
                      have n3_ : Aside0 (Below w.heap.size w w36) := ⟨h3_⟩
                      clear HO518
                      clear HB
                      clear h0_ h1_ h2_ h3_
                      have HO518 := n0_
                      have HO521 := n1_
                      have HO528 := n2_
                      have HB := n3_
                      clear n0_ n1_ n2_ n3_
                      have hHeld := trivial
                      obtain ⟨Ao38, co38, eo38⟩ := Kd.N_slice HO528.out
                      (first | subst eo38 | (injection eo38 with f1_ f2_ f3_; have f4_ := f1_.symm; have f5_ := f3_.symm; clear f1_ f2_ f3_; subst f4_; subst f5_))
                      refine norm_ (a' := ?_) ?_ ?_
                      rotate_left
                      · simp only [putAll, Act.put, List.setIfInBounds_toArray, List.set_cons_zero, List.set_cons_succ]
                        rfl
                      refine one_ (i := 5) (N := some 27) #[true, true, true, true, true, true, true, true, true, false, false, false] rfl rfl (one_of HT_.out (by kernel_rfl)) (by decide) (fun K hK => ?_)
                      refine Kd.N_append_rows_step k27 (w0 := w) w.heap.size (by rfl) (.tmp 22) (.tmp 26) 48 27 (.agg #[(.bool false), (.slice none 0 0), (.slice none 0 0), (.slice none 0 0)]) 80 rfl Try.underlying48 info27 rfl (by decide) (by omega) v520 y519 t526 _ _ _ (fun k_ => some k_ ≠ (v517 : Value).ownBlock) (fun k_ => ((fun k_ => some k_ ≠ (v517 : Value).ownBlock)) k_ ∧ some k_ ≠ (v520 : Value).ownBlock) rfl rfl ?aO ?aR (fun _ hk => hk) ?aF ?aB ?aS ?aL ?_
                      (case aR => exact (by skip; exact Kd.N_F (Kd.N_mono (ok' := (fun k_ => ((fun k_ => some k_ ≠ (v517 : Value).ownBlock)) k_ ∧ some k_ ≠ (v520 : Value).ownBlock)) (HO528.out) (fun k_ hk => ⟨hk.1, hk.2⟩))))
                      (case aB => exact (by repeat (with_reducible first | exact HB.out | apply bA | apply bN | apply bD)))
                      (case aF => exact (fun k_ hk => Kd.fresh' (Kd.N_lt (by (with_reducible repeat (first | apply nA | apply nN | apply nD)); exact HO518.out)) k_ hk))
                      (case aO => exact (by (with_reducible repeat (first | apply nA | apply nN | apply nD)); exact Kd.N_mono HO521.out (fun _ hk => hk.1)))
                      (case aS => exact (below_size (by repeat (with_reducible first | exact HB.out | apply bA | apply bN | apply bD))))
                      (case aL => have := LMc12.out; omega)
                      intro v530 w37 ho hb hg hat
                      rw [← Ny529.out] at ho
                      have n0_ := am (Kd.N_afterv (ok := (fun k_ => some k_ ≠ (.slice Ao38 t526.length co38 : Value).ownBlock)) (by (with_reducible repeat (first | apply nA | apply nN | apply nD)); exact Kd.N_mono HO518.out (fun _ hk => ⟨hk.2, hk.1⟩)) hg hat)
                      have n1_ := am (Kd.N_afterv (ok := (fun k_ => some k_ ≠ (v517 : Value).ownBlock)) (by (with_reducible repeat (first | apply nA | apply nN | apply nD)); exact HO528.out) hg hat)
                      have n2_ := am (hb)
                      have n3_ := am (ho)
                      clear HO518
                      clear HO528
                      clear HB
                      clear HO521
                      have HO518 := n0_
                      have HO528 := n1_
                      have HB := n2_
                      have HO531 := n3_
                      clear n0_ n1_ n2_ n3_
                      clear ho hb hg hat
                      refine hK.out _ _ trivial (fun hHeld => ?_)
                      clear hK K
                      refine norm_ (a' := ?_) ?_ ?_
                      rotate_left
                      · show Act.put _ (some 27) _ = _
                        simp only [Act.put, List.setIfInBounds_toArray, List.set_cons_zero, List.set_cons_succ, i64_w, i32_w]
                        rfl
                      refine one_ (i := 9) (N := some 31) #[true, true, true, true, true, true, true, true, true, true, false, false] rfl rfl (one_of HT_.out (by kernel_rfl)) (by decide) (fun K hK => ?_)
                      refine goes_ Try.func38 (by kernel_rfl) rfl #[.slice A32 y532.length c32] (by rfl) rfl rfl (by (try simp only [List.map_toArray, List.map_cons, List.map_nil]); first | done | rfl | (simp only [List.length_drop, List.length_take]; rfl)) ?_
                      with_reducible refine (zeal_Zeal.calls k (fun k_ => k_ < w.heap.size) _ _ y532 t536 _ ?side1 A15.out).mono ?_
                      (case side1 => exact Kd.V_mk HC535.out (Kd.F_below (Kd.C_F k27_heap HR535.out) (by repeat (with_reducible first | exact HB.out | apply bA | apply bN | apply bD))))
                      rintro e w39 ⟨v537, rfl, ho0, hb⟩
                      refine ⟨_, rfl, ?_⟩
                      have n0_ := am (Kd.N_elder' (by (with_reducible repeat (first | apply nA | apply nN | apply nD)); exact HO518.out) (Kd.N_base ho0) hb)
                      have n1_ := am (Kd.N_elder' (by (with_reducible repeat (first | apply nA | apply nN | apply nD)); exact HO528.out) (Kd.N_base ho0) hb)
                      have n2_ := am (Kd.N_elder' (by (with_reducible repeat (first | apply nA | apply nN | apply nD)); exact HO531.out) (Kd.N_base ho0) hb)
                      have n3_ := am (Kd.N_lower (Kd.N_mono (ok' := fun k_ => some k_ ≠ (v517 : Value).ownBlock ∧ some k_ ≠ (.slice Ao38 t526.length co38 : Value).ownBlock ∧ some k_ ≠ (v530 : Value).ownBlock) ho0 (fun k_ hk_ => ⟨Or.elim hk_ (fun hs_ => fun e_ => Nat.not_le.2 hs_ (Kd.N_base HO518.out k_ e_.symm)) (fun hn_ => (Kd.fresh' (Kd.N_lt (by (with_reducible repeat (first | apply nA | apply nN | apply nD)); exact HO518.out)) k_ hn_)), Or.elim hk_ (fun hs_ => fun e_ => Nat.not_le.2 hs_ (Kd.N_base HO528.out k_ e_.symm)) (fun hn_ => (Kd.fresh' (Kd.N_lt (by (with_reducible repeat (first | apply nA | apply nN | apply nD)); exact HO528.out)) k_ hn_)), Or.elim hk_ (fun hs_ => fun e_ => Nat.not_le.2 hs_ (Kd.N_base HO531.out k_ e_.symm)) (fun hn_ => (Kd.fresh' (Kd.N_lt (by (with_reducible repeat (first | apply nA | apply nN | apply nD)); exact HO531.out)) k_ hn_))⟩)) (below_size (by repeat (with_reducible first | exact HB.out | apply bA | apply bN | apply bD))))
                      have n4_ := am (below_step (by repeat (with_reducible first | exact HB.out | apply bA | apply bN | apply bD)) hb)
                      clear HO518
                      clear HO528
                      clear HO531
                      clear HB
                      have HO518 := n0_
                      have HO528 := n1_
                      have HO531 := n2_
                      have HO538 := n3_
                      have HB := n4_
                      clear n0_ n1_ n2_ n3_ n4_
                      (try clear hb)
                      (try clear hb2)
                      (try clear hk)
                      (try clear hi)
                      (try clear ho0)
                      obtain ⟨Ao41, co41, eo41⟩ := Kd.N_slice HO538.out
                      (first | subst eo41 | (injection eo41 with f1_ f2_ f3_; have f4_ := f1_.symm; have f5_ := f3_.symm; clear f1_ f2_ f3_; subst f4_; subst f5_))
                      refine hK.out _ _ trivial (fun hHeld => ?_)
                      clear hK K
                      refine norm_ (a' := ?_) ?_ ?_
                      rotate_left
                      · show Act.put _ (some 31) _ = _
                        simp only [Act.put, List.setIfInBounds_toArray, List.set_cons_zero, List.set_cons_succ, i64_w, i32_w]
                        rfl
                      refine one_ (i := 10) (N := some 32) #[true, true, true, true, true, true, true, true, true, true, true, false] rfl rfl (one_of HT_.out (by kernel_rfl)) (by decide) (fun K hK => ?_)
                      refine Kd.N_append_rows_step k27 (w0 := w) w.heap.size (by rfl) (.tmp 27) (.tmp 31) 48 27 (.agg #[(.bool false), (.slice none 0 0), (.slice none 0 0), (.slice none 0 0)]) 80 rfl Try.underlying48 info27 rfl (by decide) (by omega) v530 y529 t536 _ _ _ (fun k_ => some k_ ≠ (v517 : Value).ownBlock) (fun k_ => ((fun k_ => some k_ ≠ (v517 : Value).ownBlock)) k_ ∧ some k_ ≠ (v530 : Value).ownBlock) rfl rfl ?aO ?aR (fun _ hk => hk) ?aF ?aB ?aS ?aL ?_
                      (case aR => exact (by skip; exact Kd.N_F (Kd.N_mono (ok' := (fun k_ => ((fun k_ => some k_ ≠ (v517 : Value).ownBlock)) k_ ∧ some k_ ≠ (v530 : Value).ownBlock)) (HO538.out) (fun k_ hk => ⟨hk.1, hk.2.2⟩))))
                      (case aB => exact (by repeat (with_reducible first | exact HB.out | apply bA | apply bN | apply bD)))
                      (case aF => exact (fun k_ hk => Kd.fresh' (Kd.N_lt (by (with_reducible repeat (first | apply nA | apply nN | apply nD)); exact HO518.out)) k_ hk))
                      (case aO => exact (by (with_reducible repeat (first | apply nA | apply nN | apply nD)); exact Kd.N_mono HO531.out (fun _ hk => hk.1)))
                      (case aS => exact (below_size (by repeat (with_reducible first | exact HB.out | apply bA | apply bN | apply bD))))
                      (case aL => have := LMc16.out; omega)
                      intro v540 w40 ho hb hg hat
                      rw [← Ny539.out] at ho
                      have n0_ := am (Kd.N_afterv (ok := (fun k_ => some k_ ≠ (.slice Ao38 t526.length co38 : Value).ownBlock ∧ some k_ ≠ (.slice Ao41 t536.length co41 : Value).ownBlock)) (by (with_reducible repeat (first | apply nA | apply nN | apply nD)); exact Kd.N_mono HO518.out (fun _ hk => ⟨⟨hk.1.1, hk.2⟩, hk.1.2⟩)) hg hat)
                      have n1_ := am (Kd.N_afterv (ok := (fun k_ => some k_ ≠ (v517 : Value).ownBlock ∧ some k_ ≠ (.slice Ao41 t536.length co41 : Value).ownBlock)) (by (with_reducible repeat (first | apply nA | apply nN | apply nD)); exact Kd.N_mono HO528.out (fun _ hk => ⟨⟨hk.1.1, hk.2⟩, hk.1.2⟩)) hg hat)
                      have n2_ := am (Kd.N_afterv (ok := (fun k_ => some k_ ≠ (v517 : Value).ownBlock ∧ some k_ ≠ (.slice Ao38 t526.length co38 : Value).ownBlock)) (by (with_reducible repeat (first | apply nA | apply nN | apply nD)); exact Kd.N_mono HO538.out (fun _ hk => ⟨⟨hk.1, hk.2.1⟩, hk.2.2⟩)) hg hat)
                      have n3_ := am (hb)
                      have n4_ := am (ho)
                      clear HO518
                      clear HO528
                      clear HO538
                      clear HB
                      clear HO531
                      have HO518 := n0_
                      have HO528 := n1_
                      have HO538 := n2_
                      have HB := n3_
                      have HO541 := n4_
                      clear n0_ n1_ n2_ n3_ n4_
                      clear ho hb hg hat
                      refine hK.out _ _ trivial (fun hHeld => ?_)
                      clear hK K
                      refine norm_ (a' := ?_) ?_ ?_
                      rotate_left
                      · show Act.put _ (some 32) _ = _
                        simp only [Act.put, List.setIfInBounds_toArray, List.set_cons_zero, List.set_cons_succ, i64_w, i32_w]
                        rfl
                      refine pure_ (i := 11) (N := some 8) (v := ?_) (a' := ?_) #[true, true, true, true, true, true, true, true, true, true, true, true] rfl rfl (any_of HT_.out (by kernel_rfl)) (fun _ _ _ h => h) (Or.inl ⟨by rfl, ?_⟩) ?_ ?_
                      rotate_left
                      · intro w'
                        go_simp
                        with_reducible rfl
                      rotate_left
                      · simp only [Act.put, List.setIfInBounds_toArray, List.set_cons_zero, List.set_cons_succ, i64_w, i32_w]
                        rfl
                      refine done_ (done_of HT_.out (by kernel_rfl)) ?_
                      obtain ⟨Ao42, co42, eo42⟩ := Kd.N_slice HO518.out
                      subst eo42
                      try go_wp2_with (first | (go_at_call 38; (with_reducible refine (zeal_Zeal.calls k (fun k_ => ((some k_ ≠ (.slice Ao38 t526.length co38 : Value).ownBlock ∧ some k_ ≠ (.slice Ao41 t536.length co41 : Value).ownBlock) ∧ some k_ ≠ (v540 : Value).ownBlock)) _ _ t516 t542 _ ?side1 A18.out).mono ?_); (case side1 => exact Kd.N_V (HO518.out)); rintro e w43 ⟨v543, rfl, ho0, hb⟩; have n0_ := am (Kd.N_elder' (by (with_reducible repeat (first | apply nA | apply nN | apply nD)); exact HO518.out) (Kd.N_base ho0) hb); have n1_ := am (Kd.N_elder' (by (with_reducible repeat (first | apply nA | apply nN | apply nD)); exact HO528.out) (Kd.N_base ho0) hb); have n2_ := am (Kd.N_elder' (by (with_reducible repeat (first | apply nA | apply nN | apply nD)); exact HO538.out) (Kd.N_base ho0) hb); have n3_ := am (Kd.N_elder' (by (with_reducible repeat (first | apply nA | apply nN | apply nD)); exact HO541.out) (Kd.N_base ho0) hb); have n4_ := am (Kd.N_lower (Kd.N_mono (ok' := fun k_ => some k_ ≠ (.slice Ao38 t526.length co38 : Value).ownBlock ∧ some k_ ≠ (.slice Ao41 t536.length co41 : Value).ownBlock ∧ some k_ ≠ (v540 : Value).ownBlock) ho0 (fun k_ hk_ => ⟨Or.elim hk_ (fun hs_ => hs_.1.1) (fun hn_ => (Kd.fresh' (Kd.N_lt (by (with_reducible repeat (first | apply nA | apply nN | apply nD)); exact HO528.out)) k_ hn_)), Or.elim hk_ (fun hs_ => hs_.1.2) (fun hn_ => (Kd.fresh' (Kd.N_lt (by (with_reducible repeat (first | apply nA | apply nN | apply nD)); exact HO538.out)) k_ hn_)), Or.elim hk_ (fun hs_ => hs_.2) (fun hn_ => (Kd.fresh' (Kd.N_lt (by (with_reducible repeat (first | apply nA | apply nN | apply nD)); exact HO541.out)) k_ hn_))⟩)) (below_size (by repeat (with_reducible first | exact HB.out | apply bA | apply bN | apply bD)))); have n5_ := am (below_step (by repeat (with_reducible first | exact HB.out | apply bA | apply bN | apply bD)) hb); clear HO518; clear HO528; clear HO538; clear HO541; clear HB; have HO518 := n0_; have HO528 := n1_; have HO538 := n2_; have HO541 := n3_; have HO544 := n4_; have HB := n5_; clear n0_ n1_ n2_ n3_ n4_ n5_; (try clear hb); (try clear hb2); (try clear hk); (try clear hi); (try clear ho0); obtain ⟨Ao44, co44, eo44⟩ := Kd.N_slice HO544.out; subst eo44) | (go_at_call 34; (with_reducible refine (sennitref07_Same.calls k _ _ t542 _ _ t516 true _ ?side1 ?side2 ?side3 ?side4 A19.out).mono ?_); (case side1 => repeat (first | exact (Kd.N_reads' HO544.out).2.2 | (with_reducible refine Kd.C_alloc ?_ _) | (with_reducible refine Kd.C_drewN ?_ _) | (with_reducible refine Kd.C_drew ?_))); (case side2 => exact (Kd.N_reads' HO544.out).2.1); (case side3 => repeat (first | exact (Kd.N_reads' HO518.out).2.2 | (with_reducible refine Kd.C_alloc ?_ _) | (with_reducible refine Kd.C_drewN ?_ _) | (with_reducible refine Kd.C_drew ?_))); (case side4 => exact (Kd.N_reads' HO518.out).2.1); rintro e w' ⟨rfl, ⟨nd, rfl⟩⟩; obtain ⟨Ao45, co45, eo45⟩ := Kd.N_slice HO541.out; subst eo45) | (go_at_call 40; (with_reducible refine (pick_Normal.calls k (fun k_ => (some k_ ≠ (.slice Ao42 t516.length co42 : Value).ownBlock ∧ some k_ ≠ (.slice Ao44 t542.length co44 : Value).ownBlock)) _ _ y539 t546 _ ?side1 A21.out).mono ?_); (case side1 => exact Kd.N_V (HO541.out)); rintro e w46 ⟨v547, rfl, ho0, hb⟩; have n0_ := am (Kd.N_elder' (by (with_reducible repeat (first | apply nA | apply nN | apply nD)); exact HO518.out) (Kd.N_base ho0) hb); have n1_ := am (Kd.N_elder' (by (with_reducible repeat (first | apply nA | apply nN | apply nD)); exact HO528.out) (Kd.N_base ho0) hb); have n2_ := am (Kd.N_elder' (by (with_reducible repeat (first | apply nA | apply nN | apply nD)); exact HO538.out) (Kd.N_base ho0) hb); have n3_ := am (Kd.N_elder' (by (with_reducible repeat (first | apply nA | apply nN | apply nD)); exact HO541.out) (Kd.N_base ho0) hb); have n4_ := am (Kd.N_elder' (by (with_reducible repeat (first | apply nA | apply nN | apply nD)); exact HO544.out) (Kd.N_base ho0) hb); have n5_ := am (Kd.N_lower (Kd.N_mono (ok' := fun k_ => some k_ ≠ (.slice Ao42 t516.length co42 : Value).ownBlock ∧ some k_ ≠ (.slice Ao44 t542.length co44 : Value).ownBlock) ho0 (fun k_ hk_ => ⟨Or.elim hk_ (fun hs_ => hs_.1) (fun hn_ => (Kd.fresh' (Kd.N_lt (by (with_reducible repeat (first | apply nA | apply nN | apply nD)); exact HO518.out)) k_ hn_)), Or.elim hk_ (fun hs_ => hs_.2) (fun hn_ => (Kd.fresh' (Kd.N_lt (by (with_reducible repeat (first | apply nA | apply nN | apply nD)); exact HO544.out)) k_ hn_))⟩)) (below_size (by repeat (with_reducible first | exact HB.out | apply bA | apply bN | apply bD)))); have n6_ := am (below_step (by repeat (with_reducible first | exact HB.out | apply bA | apply bN | apply bD)) hb); clear HO518; clear HO528; clear HO538; clear HO541; clear HO544; clear HB; have HO518 := n0_; have HO528 := n1_; have HO538 := n2_; have HO541 := n3_; have HO544 := n4_; have HO548 := n5_; have HB := n6_; clear n0_ n1_ n2_ n3_ n4_ n5_ n6_; (try clear hb); (try clear hb2); (try clear hk); (try clear hi); (try clear ho0); obtain ⟨Ao47, co47, eo47⟩ := Kd.N_slice HO548.out; subst eo47) | (go_at_call 34; (with_reducible refine (sennitref07_Same.calls k _ _ t546 _ _ t516 true _ ?side1 ?side2 ?side3 ?side4 A22.out).mono ?_); (case side1 => repeat (first | exact (Kd.N_reads' HO548.out).2.2 | (with_reducible refine Kd.C_alloc ?_ _) | (with_reducible refine Kd.C_drewN ?_ _) | (with_reducible refine Kd.C_drew ?_))); (case side2 => exact (Kd.N_reads' HO548.out).2.1); (case side3 => repeat (first | exact (Kd.N_reads' HO518.out).2.2 | (with_reducible refine Kd.C_alloc ?_ _) | (with_reducible refine Kd.C_drewN ?_ _) | (with_reducible refine Kd.C_drew ?_))); (case side4 => exact (Kd.N_reads' HO518.out).2.1); rintro e w' ⟨rfl, ⟨nd, rfl⟩⟩) | (go_at_call 41; (with_reducible refine (sennitref07_Clean.calls k _ _ l0 true _ ?side1 ?side2 A24.out).mono ?_); (case side1 => repeat (first | exact (Kd.C_below HR0.out (by repeat (with_reducible first | exact HB.out | apply bA | apply bN | apply bD))) | (with_reducible refine Kd.C_alloc ?_ _) | (with_reducible refine Kd.C_drewN ?_ _) | (with_reducible refine Kd.C_drew ?_))); (case side2 => exact HC0.out); rintro e w' ⟨rfl, ⟨nd, rfl⟩⟩) | (go_at_call 42; (with_reducible refine (sennitref07_Normal.calls k (fun k_ => k_ < w.heap.size) _ _ l0 t551 _ ?side1 A26.out).mono ?_); (case side1 => exact Kd.V_mk HC0.out (Kd.F_below (Kd.C_F k27_heap HR0.out) (by repeat (with_reducible first | exact HB.out | apply bA | apply bN | apply bD)))); rintro e w48 ⟨v552, rfl, ho0, hb⟩; have n0_ := am (Kd.N_elder' (by (with_reducible repeat (first | apply nA | apply nN | apply nD)); exact HO518.out) (Kd.N_base ho0) hb); have n1_ := am (Kd.N_elder' (by (with_reducible repeat (first | apply nA | apply nN | apply nD)); exact HO528.out) (Kd.N_base ho0) hb); have n2_ := am (Kd.N_elder' (by (with_reducible repeat (first | apply nA | apply nN | apply nD)); exact HO538.out) (Kd.N_base ho0) hb); have n3_ := am (Kd.N_elder' (by (with_reducible repeat (first | apply nA | apply nN | apply nD)); exact HO541.out) (Kd.N_base ho0) hb); have n4_ := am (Kd.N_elder' (by (with_reducible repeat (first | apply nA | apply nN | apply nD)); exact HO544.out) (Kd.N_base ho0) hb); have n5_ := am (Kd.N_elder' (by (with_reducible repeat (first | apply nA | apply nN | apply nD)); exact HO548.out) (Kd.N_base ho0) hb); have n6_ := am (Kd.N_lower (Kd.N_mono (ok' := fun k_ => some k_ ≠ (.slice Ao42 t516.length co42 : Value).ownBlock ∧ some k_ ≠ (.slice Ao38 t526.length co38 : Value).ownBlock ∧ some k_ ≠ (.slice Ao41 t536.length co41 : Value).ownBlock ∧ some k_ ≠ (.slice Ao45 y539.length co45 : Value).ownBlock ∧ some k_ ≠ (.slice Ao44 t542.length co44 : Value).ownBlock ∧ some k_ ≠ (.slice Ao47 t546.length co47 : Value).ownBlock) ho0 (fun k_ hk_ => ⟨Or.elim hk_ (fun hs_ => fun e_ => Nat.not_le.2 hs_ (Kd.N_base HO518.out k_ e_.symm)) (fun hn_ => (Kd.fresh' (Kd.N_lt (by (with_reducible repeat (first | apply nA | apply nN | apply nD)); exact HO518.out)) k_ hn_)), Or.elim hk_ (fun hs_ => fun e_ => Nat.not_le.2 hs_ (Kd.N_base HO528.out k_ e_.symm)) (fun hn_ => (Kd.fresh' (Kd.N_lt (by (with_reducible repeat (first | apply nA | apply nN | apply nD)); exact HO528.out)) k_ hn_)), Or.elim hk_ (fun hs_ => fun e_ => Nat.not_le.2 hs_ (Kd.N_base HO538.out k_ e_.symm)) (fun hn_ => (Kd.fresh' (Kd.N_lt (by (with_reducible repeat (first | apply nA | apply nN | apply nD)); exact HO538.out)) k_ hn_)), Or.elim hk_ (fun hs_ => fun e_ => Nat.not_le.2 hs_ (Kd.N_base HO541.out k_ e_.symm)) (fun hn_ => (Kd.fresh' (Kd.N_lt (by (with_reducible repeat (first | apply nA | apply nN | apply nD)); exact HO541.out)) k_ hn_)), Or.elim hk_ (fun hs_ => fun e_ => Nat.not_le.2 hs_ (Kd.N_base HO544.out k_ e_.symm)) (fun hn_ => (Kd.fresh' (Kd.N_lt (by (with_reducible repeat (first | apply nA | apply nN | apply nD)); exact HO544.out)) k_ hn_)), Or.elim hk_ (fun hs_ => fun e_ => Nat.not_le.2 hs_ (Kd.N_base HO548.out k_ e_.symm)) (fun hn_ => (Kd.fresh' (Kd.N_lt (by (with_reducible repeat (first | apply nA | apply nN | apply nD)); exact HO548.out)) k_ hn_))⟩)) (below_size (by repeat (with_reducible first | exact HB.out | apply bA | apply bN | apply bD)))); have n7_ := am (below_step (by repeat (with_reducible first | exact HB.out | apply bA | apply bN | apply bD)) hb); clear HO518; clear HO528; clear HO538; clear HO541; clear HO544; clear HO548; clear HB; have HO518 := n0_; have HO528 := n1_; have HO538 := n2_; have HO541 := n3_; have HO544 := n4_; have HO548 := n5_; have HO553 := n6_; have HB := n7_; clear n0_ n1_ n2_ n3_ n4_ n5_ n6_ n7_; (try clear hb); (try clear hb2); (try clear hk); (try clear hi); (try clear ho0); obtain ⟨Ao49, co49, eo49⟩ := Kd.N_slice HO553.out; subst eo49) | (go_at_call 34; (with_reducible refine (sennitref07_Same.calls k _ _ t516 _ _ t551 t554 _ ?side1 ?side2 ?side3 ?side4 A27.out).mono ?_); (case side1 => repeat (first | exact (Kd.N_reads' HO518.out).2.2 | (with_reducible refine Kd.C_alloc ?_ _) | (with_reducible refine Kd.C_drewN ?_ _) | (with_reducible refine Kd.C_drew ?_))); (case side2 => exact (Kd.N_reads' HO518.out).2.1); (case side3 => repeat (first | exact (Kd.N_reads' HO553.out).2.2 | (with_reducible refine Kd.C_alloc ?_ _) | (with_reducible refine Kd.C_drewN ?_ _) | (with_reducible refine Kd.C_drew ?_))); (case side4 => exact (Kd.N_reads' HO553.out).2.1); rintro e w' ⟨rfl, ⟨nd, rfl⟩⟩))
                      go_ret
                      exact ⟨by first | rfl | (simp [errW_none, errW_some] <;> rfl) | (simp only [← hji8]; first | rfl | (simp [errW_none, errW_some] <;> rfl)) | (simp [*, errW_none, errW_some] <;> rfl), by repeat (with_reducible first | exact HB.out | apply bA | apply bN | apply bD)⟩
                    · replace c25 := Bool.eq_false_iff.mpr c25
                      subst c25
                      have H1 : (some true) = some r := by rw [if_neg (show ¬ (false = true) by decide)] at H; exact H
                      clear H
                      have H := H1
                      clear H1
                      obtain rfl := Option.some.inj H
                      go_enter Try.func11, Try.ntmps11
                      try go_wp2_with (first | ((with_reducible refine gate_callee (f := 35) rfl ?_); refine goesL_ (some 9) rfl rfl Try.func35 (by kernel_rfl) rfl #[] rfl (by (try simp only [List.map_toArray, List.map_cons, List.map_nil]); first | done | rfl | (simp only [List.length_drop, List.length_take]; rfl)) ?_; (with_reducible refine (sennitlaw10_awake.calls k  true _ A3.out).mono ?_); rintro e w50 ⟨rfl, hb⟩; refine ⟨_, rfl, ?_⟩; have n0_ := am (below_step (by repeat (with_reducible first | exact HB.out | apply bA | apply bN | apply bD)) hb); clear HB; have HB := n0_; clear n0_; (try clear hb); (try clear hb2); (try clear hk); (try clear hi)) | ((with_reducible refine gate_callee (f := 32) rfl ?_); refine goesL_ (some 11) rfl rfl Try.func32 (by kernel_rfl) rfl #[.slice A0 l0.length c0] rfl (by (try simp only [List.map_toArray, List.map_cons, List.map_nil]); first | done | rfl | (simp only [List.length_drop, List.length_take]; rfl)) ?_; (with_reducible refine (sennitref07_Few.calls k _ _ l0 true _ ?side1 ?side2 A4.out).mono ?_); (case side1 => repeat (first | exact (Kd.C_below HR0.out HB.out) | (with_reducible refine Kd.C_alloc ?_ _) | (with_reducible refine Kd.C_drewN ?_ _) | (with_reducible refine Kd.C_drew ?_))); (case side2 => exact HC0.out); rintro e w' ⟨rfl, ⟨nd, rfl⟩⟩; refine ⟨_, rfl, ?_⟩) | ((with_reducible refine gate_callee (f := 38) rfl ?_); refine goesL_ (some 21) rfl rfl Try.func38 (by kernel_rfl) rfl #[.slice A0 l0.length c0] rfl (by (try simp only [List.map_toArray, List.map_cons, List.map_nil]); first | done | rfl | (simp only [List.length_drop, List.length_take]; rfl)) ?_; (with_reducible refine (zeal_Zeal.calls k (fun k_ => k_ < w.heap.size) _ _ l0 t516 _ ?side1 A7.out).mono ?_); (case side1 => exact Kd.V_mk HC0.out (Kd.F_below (Kd.C_F k27_heap HR0.out) (by repeat (with_reducible first | exact HB.out | apply bA | apply bN | apply bD)))); rintro e w51 ⟨v517, rfl, ho0, hb⟩; refine ⟨_, rfl, ?_⟩; have n0_ := am (Kd.N_lower (Kd.N_mono (ok' := fun k_ => True) ho0 (fun k_ hk_ => trivial)) (below_size (by repeat (with_reducible first | exact HB.out | apply bA | apply bN | apply bD)))); have n1_ := am (below_step (by repeat (with_reducible first | exact HB.out | apply bA | apply bN | apply bD)) hb); clear HB; have HO518 := n0_; have HB := n1_; clear n0_ n1_; (try clear hb); (try clear hb2); (try clear hk); (try clear hi); (try clear ho0)))
                      have n0_ := am (Kd.N_drew HO518.out)
                      have n1_ := am (below_drew1 HB.out)
                      clear HO518
                      clear HB
                      have HO518 := n0_
                      have HB := n1_
                      clear n0_ n1_
                      have q53 : ((ji8) : Int) ≤ ((l0.length : Int) : Int) := of_decide_eq_true (by first | (with_reducible assumption) | assumption)
                      obtain ⟨i053, hi053, _, hsz53, _⟩ := info_parts info27
                      have hroom53 : l0.length ≤ c0 := HC0.out
                      have hC53 : Kd.C k27 _ A0 l0.length l0 := HR0.out
                      have hcut53 := cut_to (P := Try.prog) 48 27 .i64 Try.underlying48 hi053 A0 l0.length c0 (ji8) (of_decide_eq_true (by first | (with_reducible assumption) | assumption)) q53 hroom53
                      have hr53 := Kd.C_take (m := ((ji8) : Int).toNat) hC53 (by omega)
                      have hy53 : y522.length = ((ji8) : Int).toNat := (by rw [Ny522.out, List.length_take]; omega)
                      rw [← Ny522.out] at hr53
                      rw [← hy53] at hcut53
                      have HR525 := am hr53
                      have HC525 := am (show y522.length ≤ c0 from by omega)
                      clear hr53 hC53 hroom53 hi053 hsz53
                      have KY53 := am hy53
                      clear hy53
                      replace q53 := eq_true q53
                      have q54 : ((ji8) : Int) ≤ ((l0.length : Int) : Int) := of_decide_eq_true (by first | (with_reducible assumption) | assumption)
                      obtain ⟨i054, hi054, _, hsz54, _⟩ := info_parts info27
                      have hroom54 : l0.length ≤ c0 := HC0.out
                      have hC54 : Kd.C k27 _ A0 l0.length l0 := HR0.out
                      have q054 : (0 : Int) ≤ ((ji8) : Int) := of_decide_eq_true (by first | (with_reducible assumption) | assumption)
                      have hcut54 := cut_from (P := Try.prog) 48 27 .i64 Try.underlying48 hi054 4 hsz54 A0 l0.length c0 (ji8) q054 q54
                      have hr54 := Kd.C_drop (m := ((ji8) : Int).toNat) (c := c0) hC54 (by omega) hroom54
                      obtain ⟨A54, hA54⟩ : ∃ A1x_, A1x_ = (if c0 = ((ji8) : Int).toNat then A0 else (A0 : Option Addr).map (·.add (((ji8) : Int).toNat * 4))) := ⟨_, rfl⟩
                      obtain ⟨c54, hc54⟩ : ∃ c1x_, c1x_ = c0 - ((ji8) : Int).toNat := ⟨_, rfl⟩
                      have hy54 : y532.length = l0.length - ((ji8) : Int).toNat := (by rw [Ny532.out, List.length_drop] <;> omega)
                      rw [show (l0).drop ((ji8) : Int).toNat = y532 from Ny532.out.symm] at hr54
                      replace hr54 : Kd.C k27 _ A54 y532.length y532 := (by rw [hA54]; exact hr54)
                      rw [← hy54, ← hA54, ← hc54] at hcut54
                      have HR535 := am hr54
                      have HC535 := am (show y532.length ≤ c54 from by rw [hy54, hc54]; exact Nat.sub_le_sub_right hroom54 _)
                      clear hr54 hC54 hroom54 hi054 hsz54 hc54
                      have KY54 := am hy54
                      have KA54 := am hA54
                      clear hy54 hA54
                      replace q54 := eq_true q54
                      refine start_ (n := 12) (S := fun w' => True) (ds := []) #[false, false, false, false, false, false, false, false, false, false, false, false] (by kernel_rfl) rfl rfl trivial (fun hHeld => ?_); refine with_tabW sennitlaw10_ZealTwice.tab6 sennitlaw10_ZealTwice.bits6 (fun HT_ HW_ => ?_)
                      generalize w51.drew = w52 at HO518 HB HR525 HR535 hHeld ⊢
                      refine pure_ (i := 1) (N := some 23) (v := ?_) (a' := ?_) #[false, true, false, false, false, false, false, false, false, false, false, false] rfl rfl (any_of HT_.out (by kernel_rfl)) (fun _ _ _ h => h) (Or.inl ⟨by rfl, ?_⟩) ?_ ?_
                      rotate_left
                      · intro w'
                        go_simp
                        with_reducible rfl
                      rotate_left
                      · simp only [Act.put, List.setIfInBounds_toArray, List.set_cons_zero, List.set_cons_succ, i64_w, i32_w]
                        rfl
                      refine pure_ (i := 2) (N := some 24) (v := ?_) (a' := ?_) #[false, true, true, false, false, false, false, false, false, false, false, false] rfl rfl (any_of HT_.out (by kernel_rfl)) (fun _ _ _ h => h) (Or.inl ⟨by rfl, ?_⟩) ?_ ?_
                      rotate_left
                      · intro w'
                        go_simp
                        with_reducible rfl
                      rotate_left
                      · simp only [Act.put, List.setIfInBounds_toArray, List.set_cons_zero, List.set_cons_succ, i64_w, i32_w]
                        rfl
                      refine pure_ (i := 3) (N := some 25) (v := ?_) (a' := ?_) #[false, true, true, true, false, false, false, false, false, false, false, false] rfl rfl (any_of HT_.out (by kernel_rfl)) (fun _ _ _ h => h) (Or.inl ⟨by rfl, ?_⟩) ?_ ?_
                      rotate_left
                      · intro w'
                        go_simp
                        with_reducible rfl
                      rotate_left
                      · simp only [Act.put, List.setIfInBounds_toArray, List.set_cons_zero, List.set_cons_succ, i64_w, i32_w]
                        rfl
                      refine pure_ (i := 6) (N := some 28) (v := ?_) (a' := ?_) #[false, true, true, true, false, false, true, false, false, false, false, false] rfl rfl (any_of HT_.out (by kernel_rfl)) (fun _ _ _ h => h) (Or.inl ⟨by rfl, ?_⟩) ?_ ?_
                      rotate_left
                      · intro w'
                        go_simp
                        with_reducible rfl
                      rotate_left
                      · simp only [Act.put, List.setIfInBounds_toArray, List.set_cons_zero, List.set_cons_succ, i64_w, i32_w]
                        rfl
                      refine pure_ (i := 7) (N := some 29) (v := ?_) (a' := ?_) #[false, true, true, true, false, false, true, true, false, false, false, false] rfl rfl (any_of HT_.out (by kernel_rfl)) (fun _ _ _ h => h) (Or.inl ⟨by rfl, ?_⟩) ?_ ?_
                      rotate_left
                      · intro w'
                        go_simp
                        with_reducible rfl
                      rotate_left
                      · simp only [Act.put, List.setIfInBounds_toArray, List.set_cons_zero, List.set_cons_succ, i64_w, i32_w]
                        rfl
                      refine pure_ (i := 8) (N := some 30) (v := ?_) (a' := ?_) #[false, true, true, true, false, false, true, true, true, false, false, false] rfl rfl (any_of HT_.out (by kernel_rfl)) (fun _ _ _ h => h) (Or.inl ⟨by rfl, ?_⟩) ?_ ?_
                      rotate_left
                      · intro w'
                        go_simp
                        with_reducible rfl
                      rotate_left
                      · simp only [Act.put, List.setIfInBounds_toArray, List.set_cons_zero, List.set_cons_succ, i64_w, i32_w]
                        rfl
                      refine join_ (σ := Value × Value) 4 #[true, true, true, true, true, false, true, true, true, false, false, false] (fun s_ => [(22, s_.1), (26, s_.2)]) (fun s_ w' => (Kd.N k27 27 w' w.heap.size (fun k_ => some k_ ≠ (s_.1 : Value).ownBlock ∧ some k_ ≠ (s_.2 : Value).ownBlock) v517 t516) ∧ (Kd.N k27 27 w' w.heap.size (fun k_ => some k_ ≠ (v517 : Value).ownBlock ∧ some k_ ≠ (s_.2 : Value).ownBlock) s_.1 y519) ∧ (Kd.N k27 27 w' w.heap.size (fun k_ => some k_ ≠ (v517 : Value).ownBlock ∧ some k_ ≠ (s_.1 : Value).ownBlock) s_.2 t526) ∧ (Below w.heap.size w w')) ?_ ?_
                      rotate_left
                      · intro hCont
                        refine two_ (i := 0) (j := 4) (Ni := some 22) (Nj := some 26) #[true, true, true, true, false, false, true, true, true, false, false, false] #[false, true, true, true, true, false, true, true, true, false, false, false] rfl rfl rfl rfl (two_of HT_.out (by kernel_rfl)) (by decide) (by decide) (fun K hK => ?_) (fun K hK => ?_)
                        · skip
                          refine Kd.N_lit_step k27 _ 27 ?hg (N' := 22) ?hd (xs := ([] : List (S27))) (inner := []) (ok := (fun k_ => some k_ ≠ (v517 : Value).ownBlock)) (okp := (fun k_ => some k_ ≠ (v517 : Value).ownBlock)) ?hr ?hp (fun _ hk => hk) ((show ∀ k_, w52.heap.size ≤ k_ → (fun k_ => some k_ ≠ (v517 : Value).ownBlock) k_ from fun k_ hk => Kd.fresh' (Kd.N_lt (by (with_reducible repeat (first | apply nA | apply nN | apply nD)); exact HO518.out)) k_ hk) _ (Nat.le_refl _)) (Below.refl _ _) (Nat.le_refl _) (by simp) ?_; (case hd => rfl); (case hg => rfl); (case hr => first | (go_simp; done) | (go_simp; rfl)); (case hp => exact (Reps.none _ _))
                          intro v520 w55 ho56 hb hg_ hnew_
                          clear hg_ hnew_
                          rw [← Ny519.out] at ho56
                          have n0_ := am (Kd.N_elder' (by (with_reducible repeat (first | apply nA | apply nN | apply nD)); exact HO518.out) (Kd.N_base ho56) hb)
                          have n1_ := am (Kd.N_lower ho56 (below_size (by repeat (with_reducible first | exact HB.out | apply bA | apply bN | apply bD))))
                          have n2_ := am (below_step (by repeat (with_reducible first | exact HB.out | apply bA | apply bN | apply bD)) hb)
                          clear HO518
                          clear HB
                          have HO518 := n0_
                          have HO521 := n1_
                          have HB := n2_
                          clear n0_ n1_ n2_
                          clear hb ho56
                          refine hK.out _ _ trivial (fun hHeld => ?_)
                          clear hK K
                          refine norm_ (a' := ?_) ?_ ?_
                          rotate_left
                          · show Act.put _ (some 22) _ = _
                            simp only [Act.put, List.setIfInBounds_toArray, List.set_cons_zero, List.set_cons_succ, i64_w, i32_w]
                            rfl
                          refine one_ (i := 4) (N := some 26) #[true, true, true, true, true, false, true, true, true, false, false, false] rfl rfl (one_of HT_.out (by kernel_rfl)) (by decide) (fun K hK => ?_)
                          refine goes_ Try.func38 (by kernel_rfl) rfl #[.slice A0 y522.length c0] (by rfl) rfl rfl (by (try simp only [List.map_toArray, List.map_cons, List.map_nil]); first | done | rfl | (simp only [List.length_drop, List.length_take]; rfl)) ?_
                          with_reducible refine (zeal_Zeal.calls k (fun k_ => k_ < w.heap.size) _ _ y522 t526 _ ?side1 A11.out).mono ?_
                          (case side1 => exact Kd.V_mk HC525.out (Kd.F_below (Kd.C_F k27_heap HR525.out) (by repeat (with_reducible first | exact HB.out | apply bA | apply bN | apply bD))))
                          rintro e w57 ⟨v527, rfl, ho0, hb⟩
                          refine ⟨_, rfl, ?_⟩
                          have n0_ := am (Kd.N_elder' (by (with_reducible repeat (first | apply nA | apply nN | apply nD)); exact HO518.out) (Kd.N_base ho0) hb)
                          have n1_ := am (Kd.N_elder' (by (with_reducible repeat (first | apply nA | apply nN | apply nD)); exact HO521.out) (Kd.N_base ho0) hb)
                          have n2_ := am (Kd.N_lower (Kd.N_mono (ok' := fun k_ => some k_ ≠ (v517 : Value).ownBlock ∧ some k_ ≠ (v520 : Value).ownBlock) ho0 (fun k_ hk_ => ⟨Or.elim hk_ (fun hs_ => fun e_ => Nat.not_le.2 hs_ (Kd.N_base HO518.out k_ e_.symm)) (fun hn_ => (Kd.fresh' (Kd.N_lt (by (with_reducible repeat (first | apply nA | apply nN | apply nD)); exact HO518.out)) k_ hn_)), Or.elim hk_ (fun hs_ => fun e_ => Nat.not_le.2 hs_ (Kd.N_base HO521.out k_ e_.symm)) (fun hn_ => (Kd.fresh' (Kd.N_lt (by (with_reducible repeat (first | apply nA | apply nN | apply nD)); exact HO521.out)) k_ hn_))⟩)) (below_size (by repeat (with_reducible first | exact HB.out | apply bA | apply bN | apply bD))))
                          have n3_ := am (below_step (by repeat (with_reducible first | exact HB.out | apply bA | apply bN | apply bD)) hb)
                          clear HO518
                          clear HO521
                          clear HB
                          have HO518 := n0_
                          have HO521 := n1_
                          have HO528 := n2_
                          have HB := n3_
                          clear n0_ n1_ n2_ n3_
                          (try clear hb)
                          (try clear hb2)
                          (try clear hk)
                          (try clear hi)
                          (try clear ho0)
                          refine hK.out _ _ trivial (fun hHeld => ?_)
                          clear hK K
                          refine norm_ (a' := ?_) ?_ ?_
                          rotate_left
                          · show Act.put _ (some 26) _ = _
                            simp only [Act.put, List.setIfInBounds_toArray, List.set_cons_zero, List.set_cons_succ, i64_w, i32_w]
                            rfl
                          exact norm_ (by simp only [putAll, Act.put, List.setIfInBounds_toArray, List.set_cons_zero, List.set_cons_succ]) (hCont (v520, v527) _ ⟨(by (with_reducible repeat (first | apply nA | apply nN | apply nD)); exact Kd.N_mono HO518.out (fun _ hk => ⟨hk.1.2, hk.2⟩)), (by (with_reducible repeat (first | apply nA | apply nN | apply nD)); exact HO521.out), (by (with_reducible repeat (first | apply nA | apply nN | apply nD)); exact HO528.out), (by repeat (with_reducible first | exact HB.out | apply bA | apply bN | apply bD))⟩)
                        · skip
                          refine goes_ Try.func38 (by kernel_rfl) rfl #[.slice A0 y522.length c0] (by rfl) rfl rfl (by (try simp only [List.map_toArray, List.map_cons, List.map_nil]); first | done | rfl | (simp only [List.length_drop, List.length_take]; rfl)) ?_
                          with_reducible refine (zeal_Zeal.calls k (fun k_ => k_ < w.heap.size) _ _ y522 t526 _ ?side1 A11.out).mono ?_
                          (case side1 => exact Kd.V_mk HC525.out (Kd.F_below (Kd.C_F k27_heap HR525.out) (by repeat (with_reducible first | exact HB.out | apply bA | apply bN | apply bD))))
                          rintro e w55 ⟨v527, rfl, ho0, hb⟩
                          refine ⟨_, rfl, ?_⟩
                          have n0_ := am (Kd.N_elder' (by (with_reducible repeat (first | apply nA | apply nN | apply nD)); exact HO518.out) (Kd.N_base ho0) hb)
                          have n1_ := am (Kd.N_lower (Kd.N_mono (ok' := fun k_ => some k_ ≠ (v517 : Value).ownBlock) ho0 (fun k_ hk_ => Or.elim hk_ (fun hs_ => fun e_ => Nat.not_le.2 hs_ (Kd.N_base HO518.out k_ e_.symm)) (fun hn_ => (Kd.fresh' (Kd.N_lt (by (with_reducible repeat (first | apply nA | apply nN | apply nD)); exact HO518.out)) k_ hn_)))) (below_size (by repeat (with_reducible first | exact HB.out | apply bA | apply bN | apply bD))))
                          have n2_ := am (below_step (by repeat (with_reducible first | exact HB.out | apply bA | apply bN | apply bD)) hb)
                          clear HO518
                          clear HB
                          have HO518 := n0_
                          have HO528 := n1_
                          have HB := n2_
                          clear n0_ n1_ n2_
                          (try clear hb)
                          (try clear hb2)
                          (try clear hk)
                          (try clear hi)
                          (try clear ho0)
                          refine hK.out _ _ trivial (fun hHeld => ?_)
                          clear hK K
                          refine norm_ (a' := ?_) ?_ ?_
                          rotate_left
                          · show Act.put _ (some 26) _ = _
                            simp only [Act.put, List.setIfInBounds_toArray, List.set_cons_zero, List.set_cons_succ, i64_w, i32_w]
                            rfl
                          refine one_ (i := 0) (N := some 22) #[true, true, true, true, true, false, true, true, true, false, false, false] rfl rfl (one_of HT_.out (by kernel_rfl)) (by decide) (fun K hK => ?_)
                          refine Kd.N_lit_step k27 _ 27 ?hg (N' := 22) ?hd (xs := ([] : List (S27))) (inner := []) (ok := (fun k_ => some k_ ≠ (v517 : Value).ownBlock ∧ some k_ ≠ (v527 : Value).ownBlock)) (okp := (fun k_ => some k_ ≠ (v517 : Value).ownBlock ∧ some k_ ≠ (v527 : Value).ownBlock)) ?hr ?hp (fun _ hk => hk) ((show ∀ k_, w55.heap.size ≤ k_ → (fun k_ => some k_ ≠ (v517 : Value).ownBlock ∧ some k_ ≠ (v527 : Value).ownBlock) k_ from fun k_ hk => ⟨Kd.fresh' (Kd.N_lt (by (with_reducible repeat (first | apply nA | apply nN | apply nD)); exact HO518.out)) k_ hk, Kd.fresh' (Kd.N_lt (by (with_reducible repeat (first | apply nA | apply nN | apply nD)); exact HO528.out)) k_ hk⟩) _ (Nat.le_refl _)) (Below.refl _ _) (Nat.le_refl _) (by simp) ?_; (case hd => rfl); (case hg => rfl); (case hr => first | (go_simp; done) | (go_simp; rfl)); (case hp => exact (Reps.none _ _))
                          intro v520 w56 ho57 hb hg_ hnew_
                          clear hg_ hnew_
                          rw [← Ny519.out] at ho57
                          have n0_ := am (Kd.N_elder' (by (with_reducible repeat (first | apply nA | apply nN | apply nD)); exact HO518.out) (Kd.N_base ho57) hb)
                          have n1_ := am (Kd.N_elder' (by (with_reducible repeat (first | apply nA | apply nN | apply nD)); exact HO528.out) (Kd.N_base ho57) hb)
                          have n2_ := am (Kd.N_lower ho57 (below_size (by repeat (with_reducible first | exact HB.out | apply bA | apply bN | apply bD))))
                          have n3_ := am (below_step (by repeat (with_reducible first | exact HB.out | apply bA | apply bN | apply bD)) hb)
                          clear HO518
                          clear HO528
                          clear HB
                          have HO518 := n0_
                          have HO528 := n1_
                          have HO521 := n2_
                          have HB := n3_
                          clear n0_ n1_ n2_ n3_
                          clear hb ho57
                          refine hK.out _ _ trivial (fun hHeld => ?_)
                          clear hK K
                          refine norm_ (a' := ?_) ?_ ?_
                          rotate_left
                          · show Act.put _ (some 22) _ = _
                            simp only [Act.put, List.setIfInBounds_toArray, List.set_cons_zero, List.set_cons_succ, i64_w, i32_w]
                            rfl
                          exact norm_ (by simp only [putAll, Act.put, List.setIfInBounds_toArray, List.set_cons_zero, List.set_cons_succ]) (hCont (v520, v527) _ ⟨(by (with_reducible repeat (first | apply nA | apply nN | apply nD)); exact Kd.N_mono HO518.out (fun _ hk => ⟨hk.2, hk.1.2⟩)), (by (with_reducible repeat (first | apply nA | apply nN | apply nD)); exact HO521.out), (by (with_reducible repeat (first | apply nA | apply nN | apply nD)); exact HO528.out), (by repeat (with_reducible first | exact HB.out | apply bA | apply bN | apply bD))⟩)
                      rintro ⟨v520, v527⟩ w58 ⟨h0_, h1_, h2_, h3_⟩
                      have n0_ : Aside0 (Kd.N k27 27 w58 w.heap.size (fun k_ => some k_ ≠ (v520 : Value).ownBlock ∧ some k_ ≠ (v527 : Value).ownBlock) v517 t516) := ⟨h0_⟩
                      have n1_ : Aside0 (Kd.N k27 27 w58 w.heap.size (fun k_ => some k_ ≠ (v517 : Value).ownBlock ∧ some k_ ≠ (v527 : Value).ownBlock) v520 y519) := ⟨h1_⟩
                      have n2_ : Aside0 (Kd.N k27 27 w58 w.heap.size (fun k_ => some k_ ≠ (v517 : Value).ownBlock ∧ some k_ ≠ (v520 : Value).ownBlock) v527 t526) := ⟨h2_⟩
                      have n3_ : Aside0 (Below w.heap.size w w58) := ⟨h3_⟩
                      clear HO518
                      clear HB
                      clear h0_ h1_ h2_ h3_
                      have HO518 := n0_
                      have HO521 := n1_
                      have HO528 := n2_
                      have HB := n3_
                      clear n0_ n1_ n2_ n3_
                      have hHeld := trivial
                      obtain ⟨Ao60, co60, eo60⟩ := Kd.N_slice HO528.out
                      (first | subst eo60 | (injection eo60 with f1_ f2_ f3_; have f4_ := f1_.symm; have f5_ := f3_.symm; clear f1_ f2_ f3_; subst f4_; subst f5_))
                      refine norm_ (a' := ?_) ?_ ?_
                      rotate_left
                      · simp only [putAll, Act.put, List.setIfInBounds_toArray, List.set_cons_zero, List.set_cons_succ]
                        rfl
                      refine one_ (i := 5) (N := some 27) #[true, true, true, true, true, true, true, true, true, false, false, false] rfl rfl (one_of HT_.out (by kernel_rfl)) (by decide) (fun K hK => ?_)
                      refine Kd.N_append_rows_step k27 (w0 := w) w.heap.size (by rfl) (.tmp 22) (.tmp 26) 48 27 (.agg #[(.bool false), (.slice none 0 0), (.slice none 0 0), (.slice none 0 0)]) 80 rfl Try.underlying48 info27 rfl (by decide) (by omega) v520 y519 t526 _ _ _ (fun k_ => some k_ ≠ (v517 : Value).ownBlock) (fun k_ => ((fun k_ => some k_ ≠ (v517 : Value).ownBlock)) k_ ∧ some k_ ≠ (v520 : Value).ownBlock) rfl rfl ?aO ?aR (fun _ hk => hk) ?aF ?aB ?aS ?aL ?_
                      (case aR => exact (by skip; exact Kd.N_F (Kd.N_mono (ok' := (fun k_ => ((fun k_ => some k_ ≠ (v517 : Value).ownBlock)) k_ ∧ some k_ ≠ (v520 : Value).ownBlock)) (HO528.out) (fun k_ hk => ⟨hk.1, hk.2⟩))))
                      (case aB => exact (by repeat (with_reducible first | exact HB.out | apply bA | apply bN | apply bD)))
                      (case aF => exact (fun k_ hk => Kd.fresh' (Kd.N_lt (by (with_reducible repeat (first | apply nA | apply nN | apply nD)); exact HO518.out)) k_ hk))
                      (case aO => exact (by (with_reducible repeat (first | apply nA | apply nN | apply nD)); exact Kd.N_mono HO521.out (fun _ hk => hk.1)))
                      (case aS => exact (below_size (by repeat (with_reducible first | exact HB.out | apply bA | apply bN | apply bD))))
                      (case aL => have := LMc12.out; omega)
                      intro v530 w59 ho hb hg hat
                      rw [← Ny529.out] at ho
                      have n0_ := am (Kd.N_afterv (ok := (fun k_ => some k_ ≠ (.slice Ao60 t526.length co60 : Value).ownBlock)) (by (with_reducible repeat (first | apply nA | apply nN | apply nD)); exact Kd.N_mono HO518.out (fun _ hk => ⟨hk.2, hk.1⟩)) hg hat)
                      have n1_ := am (Kd.N_afterv (ok := (fun k_ => some k_ ≠ (v517 : Value).ownBlock)) (by (with_reducible repeat (first | apply nA | apply nN | apply nD)); exact HO528.out) hg hat)
                      have n2_ := am (hb)
                      have n3_ := am (ho)
                      clear HO518
                      clear HO528
                      clear HB
                      clear HO521
                      have HO518 := n0_
                      have HO528 := n1_
                      have HB := n2_
                      have HO531 := n3_
                      clear n0_ n1_ n2_ n3_
                      clear ho hb hg hat
                      refine hK.out _ _ trivial (fun hHeld => ?_)
                      clear hK K
                      refine norm_ (a' := ?_) ?_ ?_
                      rotate_left
                      · show Act.put _ (some 27) _ = _
                        simp only [Act.put, List.setIfInBounds_toArray, List.set_cons_zero, List.set_cons_succ, i64_w, i32_w]
                        rfl
                      refine one_ (i := 9) (N := some 31) #[true, true, true, true, true, true, true, true, true, true, false, false] rfl rfl (one_of HT_.out (by kernel_rfl)) (by decide) (fun K hK => ?_)
                      refine goes_ Try.func38 (by kernel_rfl) rfl #[.slice A54 y532.length c54] (by rfl) rfl rfl (by (try simp only [List.map_toArray, List.map_cons, List.map_nil]); first | done | rfl | (simp only [List.length_drop, List.length_take]; rfl)) ?_
                      with_reducible refine (zeal_Zeal.calls k (fun k_ => k_ < w.heap.size) _ _ y532 t536 _ ?side1 A15.out).mono ?_
                      (case side1 => exact Kd.V_mk HC535.out (Kd.F_below (Kd.C_F k27_heap HR535.out) (by repeat (with_reducible first | exact HB.out | apply bA | apply bN | apply bD))))
                      rintro e w61 ⟨v537, rfl, ho0, hb⟩
                      refine ⟨_, rfl, ?_⟩
                      have n0_ := am (Kd.N_elder' (by (with_reducible repeat (first | apply nA | apply nN | apply nD)); exact HO518.out) (Kd.N_base ho0) hb)
                      have n1_ := am (Kd.N_elder' (by (with_reducible repeat (first | apply nA | apply nN | apply nD)); exact HO528.out) (Kd.N_base ho0) hb)
                      have n2_ := am (Kd.N_elder' (by (with_reducible repeat (first | apply nA | apply nN | apply nD)); exact HO531.out) (Kd.N_base ho0) hb)
                      have n3_ := am (Kd.N_lower (Kd.N_mono (ok' := fun k_ => some k_ ≠ (v517 : Value).ownBlock ∧ some k_ ≠ (.slice Ao60 t526.length co60 : Value).ownBlock ∧ some k_ ≠ (v530 : Value).ownBlock) ho0 (fun k_ hk_ => ⟨Or.elim hk_ (fun hs_ => fun e_ => Nat.not_le.2 hs_ (Kd.N_base HO518.out k_ e_.symm)) (fun hn_ => (Kd.fresh' (Kd.N_lt (by (with_reducible repeat (first | apply nA | apply nN | apply nD)); exact HO518.out)) k_ hn_)), Or.elim hk_ (fun hs_ => fun e_ => Nat.not_le.2 hs_ (Kd.N_base HO528.out k_ e_.symm)) (fun hn_ => (Kd.fresh' (Kd.N_lt (by (with_reducible repeat (first | apply nA | apply nN | apply nD)); exact HO528.out)) k_ hn_)), Or.elim hk_ (fun hs_ => fun e_ => Nat.not_le.2 hs_ (Kd.N_base HO531.out k_ e_.symm)) (fun hn_ => (Kd.fresh' (Kd.N_lt (by (with_reducible repeat (first | apply nA | apply nN | apply nD)); exact HO531.out)) k_ hn_))⟩)) (below_size (by repeat (with_reducible first | exact HB.out | apply bA | apply bN | apply bD))))
                      have n4_ := am (below_step (by repeat (with_reducible first | exact HB.out | apply bA | apply bN | apply bD)) hb)
                      clear HO518
                      clear HO528
                      clear HO531
                      clear HB
                      have HO518 := n0_
                      have HO528 := n1_
                      have HO531 := n2_
                      have HO538 := n3_
                      have HB := n4_
                      clear n0_ n1_ n2_ n3_ n4_
                      (try clear hb)
                      (try clear hb2)
                      (try clear hk)
                      (try clear hi)
                      (try clear ho0)
                      obtain ⟨Ao63, co63, eo63⟩ := Kd.N_slice HO538.out
                      (first | subst eo63 | (injection eo63 with f1_ f2_ f3_; have f4_ := f1_.symm; have f5_ := f3_.symm; clear f1_ f2_ f3_; subst f4_; subst f5_))
                      refine hK.out _ _ trivial (fun hHeld => ?_)
                      clear hK K
                      refine norm_ (a' := ?_) ?_ ?_
                      rotate_left
                      · show Act.put _ (some 31) _ = _
                        simp only [Act.put, List.setIfInBounds_toArray, List.set_cons_zero, List.set_cons_succ, i64_w, i32_w]
                        rfl
                      refine one_ (i := 10) (N := some 32) #[true, true, true, true, true, true, true, true, true, true, true, false] rfl rfl (one_of HT_.out (by kernel_rfl)) (by decide) (fun K hK => ?_)
                      refine Kd.N_append_rows_step k27 (w0 := w) w.heap.size (by rfl) (.tmp 27) (.tmp 31) 48 27 (.agg #[(.bool false), (.slice none 0 0), (.slice none 0 0), (.slice none 0 0)]) 80 rfl Try.underlying48 info27 rfl (by decide) (by omega) v530 y529 t536 _ _ _ (fun k_ => some k_ ≠ (v517 : Value).ownBlock) (fun k_ => ((fun k_ => some k_ ≠ (v517 : Value).ownBlock)) k_ ∧ some k_ ≠ (v530 : Value).ownBlock) rfl rfl ?aO ?aR (fun _ hk => hk) ?aF ?aB ?aS ?aL ?_
                      (case aR => exact (by skip; exact Kd.N_F (Kd.N_mono (ok' := (fun k_ => ((fun k_ => some k_ ≠ (v517 : Value).ownBlock)) k_ ∧ some k_ ≠ (v530 : Value).ownBlock)) (HO538.out) (fun k_ hk => ⟨hk.1, hk.2.2⟩))))
                      (case aB => exact (by repeat (with_reducible first | exact HB.out | apply bA | apply bN | apply bD)))
                      (case aF => exact (fun k_ hk => Kd.fresh' (Kd.N_lt (by (with_reducible repeat (first | apply nA | apply nN | apply nD)); exact HO518.out)) k_ hk))
                      (case aO => exact (by (with_reducible repeat (first | apply nA | apply nN | apply nD)); exact Kd.N_mono HO531.out (fun _ hk => hk.1)))
                      (case aS => exact (below_size (by repeat (with_reducible first | exact HB.out | apply bA | apply bN | apply bD))))
                      (case aL => have := LMc16.out; omega)
                      intro v540 w62 ho hb hg hat
                      rw [← Ny539.out] at ho
                      have n0_ := am (Kd.N_afterv (ok := (fun k_ => some k_ ≠ (.slice Ao60 t526.length co60 : Value).ownBlock ∧ some k_ ≠ (.slice Ao63 t536.length co63 : Value).ownBlock)) (by (with_reducible repeat (first | apply nA | apply nN | apply nD)); exact Kd.N_mono HO518.out (fun _ hk => ⟨⟨hk.1.1, hk.2⟩, hk.1.2⟩)) hg hat)
                      have n1_ := am (Kd.N_afterv (ok := (fun k_ => some k_ ≠ (v517 : Value).ownBlock ∧ some k_ ≠ (.slice Ao63 t536.length co63 : Value).ownBlock)) (by (with_reducible repeat (first | apply nA | apply nN | apply nD)); exact Kd.N_mono HO528.out (fun _ hk => ⟨⟨hk.1.1, hk.2⟩, hk.1.2⟩)) hg hat)
                      have n2_ := am (Kd.N_afterv (ok := (fun k_ => some k_ ≠ (v517 : Value).ownBlock ∧ some k_ ≠ (.slice Ao60 t526.length co60 : Value).ownBlock)) (by (with_reducible repeat (first | apply nA | apply nN | apply nD)); exact Kd.N_mono HO538.out (fun _ hk => ⟨⟨hk.1, hk.2.1⟩, hk.2.2⟩)) hg hat)
                      have n3_ := am (hb)
                      have n4_ := am (ho)
                      clear HO518
                      clear HO528
                      clear HO538
                      clear HB
                      clear HO531
                      have HO518 := n0_
                      have HO528 := n1_
                      have HO538 := n2_
                      have HB := n3_
                      have HO541 := n4_
                      clear n0_ n1_ n2_ n3_ n4_
                      clear ho hb hg hat
                      refine hK.out _ _ trivial (fun hHeld => ?_)
                      clear hK K
                      refine norm_ (a' := ?_) ?_ ?_
                      rotate_left
                      · show Act.put _ (some 32) _ = _
                        simp only [Act.put, List.setIfInBounds_toArray, List.set_cons_zero, List.set_cons_succ, i64_w, i32_w]
                        rfl
                      refine pure_ (i := 11) (N := some 8) (v := ?_) (a' := ?_) #[true, true, true, true, true, true, true, true, true, true, true, true] rfl rfl (any_of HT_.out (by kernel_rfl)) (fun _ _ _ h => h) (Or.inl ⟨by rfl, ?_⟩) ?_ ?_
                      rotate_left
                      · intro w'
                        go_simp
                        with_reducible rfl
                      rotate_left
                      · simp only [Act.put, List.setIfInBounds_toArray, List.set_cons_zero, List.set_cons_succ, i64_w, i32_w]
                        rfl
                      refine done_ (done_of HT_.out (by kernel_rfl)) ?_
                      obtain ⟨Ao64, co64, eo64⟩ := Kd.N_slice HO518.out
                      subst eo64
                      try go_wp2_with (first | (go_at_call 38; (with_reducible refine (zeal_Zeal.calls k (fun k_ => ((some k_ ≠ (.slice Ao60 t526.length co60 : Value).ownBlock ∧ some k_ ≠ (.slice Ao63 t536.length co63 : Value).ownBlock) ∧ some k_ ≠ (v540 : Value).ownBlock)) _ _ t516 t542 _ ?side1 A18.out).mono ?_); (case side1 => exact Kd.N_V (HO518.out)); rintro e w65 ⟨v543, rfl, ho0, hb⟩; have n0_ := am (Kd.N_elder' (by (with_reducible repeat (first | apply nA | apply nN | apply nD)); exact HO518.out) (Kd.N_base ho0) hb); have n1_ := am (Kd.N_elder' (by (with_reducible repeat (first | apply nA | apply nN | apply nD)); exact HO528.out) (Kd.N_base ho0) hb); have n2_ := am (Kd.N_elder' (by (with_reducible repeat (first | apply nA | apply nN | apply nD)); exact HO538.out) (Kd.N_base ho0) hb); have n3_ := am (Kd.N_elder' (by (with_reducible repeat (first | apply nA | apply nN | apply nD)); exact HO541.out) (Kd.N_base ho0) hb); have n4_ := am (Kd.N_lower (Kd.N_mono (ok' := fun k_ => some k_ ≠ (.slice Ao60 t526.length co60 : Value).ownBlock ∧ some k_ ≠ (.slice Ao63 t536.length co63 : Value).ownBlock ∧ some k_ ≠ (v540 : Value).ownBlock) ho0 (fun k_ hk_ => ⟨Or.elim hk_ (fun hs_ => hs_.1.1) (fun hn_ => (Kd.fresh' (Kd.N_lt (by (with_reducible repeat (first | apply nA | apply nN | apply nD)); exact HO528.out)) k_ hn_)), Or.elim hk_ (fun hs_ => hs_.1.2) (fun hn_ => (Kd.fresh' (Kd.N_lt (by (with_reducible repeat (first | apply nA | apply nN | apply nD)); exact HO538.out)) k_ hn_)), Or.elim hk_ (fun hs_ => hs_.2) (fun hn_ => (Kd.fresh' (Kd.N_lt (by (with_reducible repeat (first | apply nA | apply nN | apply nD)); exact HO541.out)) k_ hn_))⟩)) (below_size (by repeat (with_reducible first | exact HB.out | apply bA | apply bN | apply bD)))); have n5_ := am (below_step (by repeat (with_reducible first | exact HB.out | apply bA | apply bN | apply bD)) hb); clear HO518; clear HO528; clear HO538; clear HO541; clear HB; have HO518 := n0_; have HO528 := n1_; have HO538 := n2_; have HO541 := n3_; have HO544 := n4_; have HB := n5_; clear n0_ n1_ n2_ n3_ n4_ n5_; (try clear hb); (try clear hb2); (try clear hk); (try clear hi); (try clear ho0); obtain ⟨Ao66, co66, eo66⟩ := Kd.N_slice HO544.out; subst eo66) | (go_at_call 34; (with_reducible refine (sennitref07_Same.calls k _ _ t542 _ _ t516 true _ ?side1 ?side2 ?side3 ?side4 A19.out).mono ?_); (case side1 => repeat (first | exact (Kd.N_reads' HO544.out).2.2 | (with_reducible refine Kd.C_alloc ?_ _) | (with_reducible refine Kd.C_drewN ?_ _) | (with_reducible refine Kd.C_drew ?_))); (case side2 => exact (Kd.N_reads' HO544.out).2.1); (case side3 => repeat (first | exact (Kd.N_reads' HO518.out).2.2 | (with_reducible refine Kd.C_alloc ?_ _) | (with_reducible refine Kd.C_drewN ?_ _) | (with_reducible refine Kd.C_drew ?_))); (case side4 => exact (Kd.N_reads' HO518.out).2.1); rintro e w' ⟨rfl, ⟨nd, rfl⟩⟩; obtain ⟨Ao67, co67, eo67⟩ := Kd.N_slice HO541.out; subst eo67) | (go_at_call 40; (with_reducible refine (pick_Normal.calls k (fun k_ => (some k_ ≠ (.slice Ao64 t516.length co64 : Value).ownBlock ∧ some k_ ≠ (.slice Ao66 t542.length co66 : Value).ownBlock)) _ _ y539 t546 _ ?side1 A21.out).mono ?_); (case side1 => exact Kd.N_V (HO541.out)); rintro e w68 ⟨v547, rfl, ho0, hb⟩; have n0_ := am (Kd.N_elder' (by (with_reducible repeat (first | apply nA | apply nN | apply nD)); exact HO518.out) (Kd.N_base ho0) hb); have n1_ := am (Kd.N_elder' (by (with_reducible repeat (first | apply nA | apply nN | apply nD)); exact HO528.out) (Kd.N_base ho0) hb); have n2_ := am (Kd.N_elder' (by (with_reducible repeat (first | apply nA | apply nN | apply nD)); exact HO538.out) (Kd.N_base ho0) hb); have n3_ := am (Kd.N_elder' (by (with_reducible repeat (first | apply nA | apply nN | apply nD)); exact HO541.out) (Kd.N_base ho0) hb); have n4_ := am (Kd.N_elder' (by (with_reducible repeat (first | apply nA | apply nN | apply nD)); exact HO544.out) (Kd.N_base ho0) hb); have n5_ := am (Kd.N_lower (Kd.N_mono (ok' := fun k_ => some k_ ≠ (.slice Ao64 t516.length co64 : Value).ownBlock ∧ some k_ ≠ (.slice Ao66 t542.length co66 : Value).ownBlock) ho0 (fun k_ hk_ => ⟨Or.elim hk_ (fun hs_ => hs_.1) (fun hn_ => (Kd.fresh' (Kd.N_lt (by (with_reducible repeat (first | apply nA | apply nN | apply nD)); exact HO518.out)) k_ hn_)), Or.elim hk_ (fun hs_ => hs_.2) (fun hn_ => (Kd.fresh' (Kd.N_lt (by (with_reducible repeat (first | apply nA | apply nN | apply nD)); exact HO544.out)) k_ hn_))⟩)) (below_size (by repeat (with_reducible first | exact HB.out | apply bA | apply bN | apply bD)))); have n6_ := am (below_step (by repeat (with_reducible first | exact HB.out | apply bA | apply bN | apply bD)) hb); clear HO518; clear HO528; clear HO538; clear HO541; clear HO544; clear HB; have HO518 := n0_; have HO528 := n1_; have HO538 := n2_; have HO541 := n3_; have HO544 := n4_; have HO548 := n5_; have HB := n6_; clear n0_ n1_ n2_ n3_ n4_ n5_ n6_; (try clear hb); (try clear hb2); (try clear hk); (try clear hi); (try clear ho0); obtain ⟨Ao69, co69, eo69⟩ := Kd.N_slice HO548.out; subst eo69) | (go_at_call 34; (with_reducible refine (sennitref07_Same.calls k _ _ t546 _ _ t516 true _ ?side1 ?side2 ?side3 ?side4 A22.out).mono ?_); (case side1 => repeat (first | exact (Kd.N_reads' HO548.out).2.2 | (with_reducible refine Kd.C_alloc ?_ _) | (with_reducible refine Kd.C_drewN ?_ _) | (with_reducible refine Kd.C_drew ?_))); (case side2 => exact (Kd.N_reads' HO548.out).2.1); (case side3 => repeat (first | exact (Kd.N_reads' HO518.out).2.2 | (with_reducible refine Kd.C_alloc ?_ _) | (with_reducible refine Kd.C_drewN ?_ _) | (with_reducible refine Kd.C_drew ?_))); (case side4 => exact (Kd.N_reads' HO518.out).2.1); rintro e w' ⟨rfl, ⟨nd, rfl⟩⟩) | (go_at_call 41; (with_reducible refine (sennitref07_Clean.calls k _ _ l0 false _ ?side1 ?side2 A24.out).mono ?_); (case side1 => repeat (first | exact (Kd.C_below HR0.out (by repeat (with_reducible first | exact HB.out | apply bA | apply bN | apply bD))) | (with_reducible refine Kd.C_alloc ?_ _) | (with_reducible refine Kd.C_drewN ?_ _) | (with_reducible refine Kd.C_drew ?_))); (case side2 => exact HC0.out); rintro e w' ⟨rfl, ⟨nd, rfl⟩⟩))
                      go_ret
                      exact ⟨by first | rfl | (simp [errW_none, errW_some] <;> rfl) | (simp only [← hji8]; first | rfl | (simp [errW_none, errW_some] <;> rfl)) | (simp [*, errW_none, errW_some] <;> rfl), by repeat (with_reducible first | exact HB.out | apply bA | apply bN | apply bD)⟩
                  · replace c23 := Bool.eq_false_iff.mpr c23
                    subst c23
                    have H1 : (none) = some r := by rw [if_neg (show ¬ (false = true) by decide)] at H; exact H
                    clear H
                    have H := H1
                    clear H1
                    exact absurd H (by simp)
                · replace c20 := Bool.eq_false_iff.mpr c20
                  subst c20
                  have H1 : (none) = some r := by rw [if_neg (show ¬ (false = true) by decide)] at H; exact H
                  clear H
                  have H := H1
                  clear H1
                  exact absurd H (by simp)
              · replace c17 := Bool.eq_false_iff.mpr c17
                subst c17
                have H1 : (none) = some r := by rw [if_neg (show ¬ (false = true) by decide)] at H; exact H
                clear H
                have H := H1
                clear H1
                exact absurd H (by simp)
            · rw [if_neg c16] at H
              exact absurd H (by simp)
          · rw [if_neg c12] at H
            exact absurd H (by simp)
        · rw [if_neg c10] at H
          exact absurd H (by simp)
      · rw [if_neg c9] at H
        exact absurd H (by simp)
  · replace c5 := Bool.eq_false_iff.mpr c5
    subst c5
    have H1 : (some t514) = some r := by rw [if_neg (show ¬ (false = true) by decide)] at H; exact H
    clear H
    have H := H1
    clear H1
    obtain rfl := Option.some.inj H
    go_enter Try.func11, Try.ntmps11
    go_wp2_with (first | ((with_reducible refine gate_callee (f := 35) rfl ?_); refine goesL_ (some 9) rfl rfl Try.func35 (by kernel_rfl) rfl #[] rfl (by (try simp only [List.map_toArray, List.map_cons, List.map_nil]); first | done | rfl | (simp only [List.length_drop, List.length_take]; rfl)) ?_; (with_reducible refine (sennitlaw10_awake.calls k  t514 _ A3.out).mono ?_); rintro e w121 ⟨rfl, hb⟩; refine ⟨_, rfl, ?_⟩; have n0_ := am (below_step (by repeat (with_reducible first | exact HB.out | apply bA | apply bN | apply bD)) hb); clear HB; have HB := n0_; clear n0_; (try clear hb); (try clear hb2); (try clear hk); (try clear hi)) | ((with_reducible refine gate_callee (f := 32) rfl ?_); refine goesL_ (some 11) rfl rfl Try.func32 (by kernel_rfl) rfl #[.slice A0 l0.length c0] rfl (by (try simp only [List.map_toArray, List.map_cons, List.map_nil]); first | done | rfl | (simp only [List.length_drop, List.length_take]; rfl)) ?_; (with_reducible refine (sennitref07_Few.calls k _ _ l0 false _ ?side1 ?side2 A4.out).mono ?_); (case side1 => repeat (first | exact (Kd.C_below HR0.out HB.out) | (with_reducible refine Kd.C_alloc ?_ _) | (with_reducible refine Kd.C_drewN ?_ _) | (with_reducible refine Kd.C_drew ?_))); (case side2 => exact HC0.out); rintro e w' ⟨rfl, ⟨nd, rfl⟩⟩; refine ⟨_, rfl, ?_⟩))
    go_ret
    exact ⟨by first | rfl | (simp [errW_none, errW_some] <;> rfl) | (simp [*, errW_none, errW_some] <;> rfl), by repeat (with_reducible first | exact HB.out | apply bA | apply bN | apply bD)⟩

end Go.Proofs.Ytiaoppikdgoieaa.M
namespace Go.Proofs.Ytiaoppikdgoieaa.Pure
open Go.RowKit Go.Proofs.Ytiaoppikdgoieaa.M Go.Proofs.Ytiaoppikdgoieaa.Hand Go.Proofs.YtiaoppikdgoieaaW.PrintWords Go.Proofs.YtiaoppikdgoieaaW.PrintLast Go.Proofs.YtiaoppikdgoieaaW.PrintMore
set_option linter.unusedVariables false
set_option linter.unusedSimpArgs false

theorem rdT27 (xs : List S27) (i : Nat) (h : i < xs.length) : rd_T27 xs (i : Int) = xs[i] := by
  simp [rd_T27, List.getD_eq_getElem?_getD, h]
theorem sameG_self (a : List S27) : sameG a a = true := (sameP_all a a).2 rfl
theorem sameG_iff (a b : List S27) : sameG a b = true ↔ a = b := sameP_all a b
theorem small_okS {l : List S27} (h1 : l.length ≤ 100000) (h2 : ∀ p ∈ l, p.f3.length ≤ 800 ∧ ∀ x ∈ p.f3, x.length ≤ 800) : okS l :=
  ⟨by omega, fun p hp => ⟨by have := (h2 p hp).1; omega, fun x hx => by have := (h2 p hp).2 x hx; omega⟩⟩
theorem rSame_f (l0 l1 : List S27) (k : Nat) (h1 : l0.length ≤ 100000) (h2 : ∀ p ∈ l0, p.f3.length ≤ 800 ∧ ∀ x ∈ p.f3, x.length ≤ 800) : sennitref07_Same.f k l0 l1 = some (sameG l0 l1) := by
  unfold sennitref07_Same.f; rw [if_pos (small_okS h1 h2)]
theorem pSame_f (l0 l1 : List S27) (k : Nat) (h1 : l0.length ≤ 100000) : pick_Same.f k l0 l1 = some (sameG l0 l1) := by
  unfold pick_Same.f; rw [if_pos (by omega)]
end Go.Proofs.Ytiaoppikdgoieaa.Pure
namespace Go.Proofs.Ytiaoppikdgoieaa.Pure
open Go.RowKit Go.Proofs.Ytiaoppikdgoieaa.M Go.Proofs.Ytiaoppikdgoieaa.Hand Go.Proofs.YtiaoppikdgoieaaW.PrintWords Go.Proofs.YtiaoppikdgoieaaW.PrintLast Go.Proofs.YtiaoppikdgoieaaW.PrintMore
set_option linter.unusedVariables false
set_option linter.unusedSimpArgs false

/-- A piece of few texts. -/
def SmallP (p : S27) : Prop := Small p.f1 ∧ Small p.f2 ∧ p.f3.length ≤ 6 ∧ ∀ x ∈ p.f3, Small x
/-- A piece as it may come in. -/
def okIn (p : S27) : Prop := p.f1.length ≤ 9223372036854775807 ∧ p.f2.length ≤ 9223372036854775807 ∧ p.f3.length ≤ 9223372036854775807 ∧ ∀ x ∈ p.f3, x.length ≤ 9223372036854775807
theorem few07_l0 (l : List S27) (h1 : l.length ≤ 9223372036854775807) (h2 : ∀ p ∈ l, okIn p) (d : Nat) :
    ∀ i, i ≤ l.length → i ≤ 13 → 13 - i = d → (∀ j x, j < i → l[j]? = some x → SmallP x) →
    ∃ b, (∀ k, 2 * d + 200 ≤ k → sennitref07_Few.l0 k l (i : Int) = some b) ∧ (b = true → l.length ≤ 12 ∧ ∀ x ∈ l, SmallP x) := by
  have fin : ∀ i, i ≤ l.length → ¬ (i < l.length ∧ i < 13) → (∀ j x, j < i → l[j]? = some x → SmallP x) →
      ∃ b, (∀ k, 50 ≤ k → sennitref07_Few.l0 k l (i : Int) = some b) ∧ (b = true → l.length ≤ 12 ∧ ∀ x ∈ l, SmallP x) := by
    intro i hi hn hp
    refine ⟨decide ((l.length : Int) ≤ 12), fun k hk => ?_, fun h => ?_⟩
    · obtain ⟨k, rfl⟩ : ∃ q, k = q + 2 := ⟨k - 2, by omega⟩
      have e : sennitref07_Few.j1 (k + 1) l (i : Int) false = some (decide ((l.length : Int) ≤ 12)) := by
        rw [sennitref07_Few.j1, if_neg (by decide)]
      rw [sennitref07_Few.l0]
      by_cases h : i < l.length
      · rw [if_pos (by omega), decide_eq_false (by omega), e]
      · rw [if_neg (by omega), e]
    · simp only [decide_eq_true_eq] at h
      refine ⟨by omega, fun x hx => ?_⟩
      obtain ⟨j, hj⟩ := List.getElem?_of_mem hx
      have := (List.getElem?_eq_some_iff.1 hj).1
      exact hp j x (by omega) hj
  induction d with
  | zero =>
    intro i hi hi7 hd hp
    obtain ⟨b, h1, h2⟩ := fin i hi (by omega) hp
    exact ⟨b, fun k hk => h1 k (by omega), h2⟩
  | succ d ih =>
    intro i hi hi7 hd hp
    by_cases hc : i < l.length
    · obtain ⟨o1, o2, o3, o4⟩ := h2 _ (List.getElem_mem hc)
      obtain ⟨c, hcc, hC⟩ := few_f (l[i]).f1 20 (by omega) o1
      obtain ⟨e, hee, hE⟩ := few06_f (l[i]).f2 (l[i]).f3 o2 o3 o4
      cases c with
      | true =>
        cases e with
        | true =>
          obtain ⟨b, hb, hB⟩ := ih (i + 1) (by omega) (by omega) (by omega) (fun j x hj hx => by
            by_cases e : j = i
            · subst e
              rw [List.getElem?_eq_getElem hc] at hx
              injection hx with hx
              obtain ⟨q1, q2, q3⟩ := hE rfl
              rw [← hx]; exact ⟨hC rfl, q1, q2, q3⟩
            · exact hp j x (by omega) hx)
          refine ⟨b, fun k hk => ?_, hB⟩
          obtain ⟨k, rfl⟩ : ∃ q, k = q + 2 := ⟨k - 2, by omega⟩
          rw [sennitref07_Few.l0, if_pos (by omega), decide_eq_true (by omega), sennitref07_Few.j1, if_pos rfl, if_pos (by omega), if_pos (by omega), rdT27 _ _ hc, show (20 : Int) = ((20 : Nat) : Int) from rfl, hcc k (by omega), Option.bind_some, if_pos rfl, hee k (by omega), Option.bind_some, if_pos rfl, wrap_succ hc h1]
          exact hb k (by omega)
        | false =>
          refine ⟨false, fun k hk => ?_, fun h => by cases h⟩
          obtain ⟨k, rfl⟩ : ∃ q, k = q + 2 := ⟨k - 2, by omega⟩
          rw [sennitref07_Few.l0, if_pos (by omega), decide_eq_true (by omega), sennitref07_Few.j1, if_pos rfl, if_pos (by omega), if_pos (by omega), rdT27 _ _ hc, show (20 : Int) = ((20 : Nat) : Int) from rfl, hcc k (by omega), Option.bind_some, if_pos rfl, hee k (by omega), Option.bind_some, if_neg (by decide)]
      | false =>
        refine ⟨false, fun k hk => ?_, fun h => by cases h⟩
        obtain ⟨k, rfl⟩ : ∃ q, k = q + 2 := ⟨k - 2, by omega⟩
        rw [sennitref07_Few.l0, if_pos (by omega), decide_eq_true (by omega), sennitref07_Few.j1, if_pos rfl, if_pos (by omega), if_pos (by omega), rdT27 _ _ hc, show (20 : Int) = ((20 : Nat) : Int) from rfl, hcc k (by omega), Option.bind_some, if_neg (by decide)]
    · obtain ⟨b, h1, h2⟩ := fin i hi (by omega) hp
      exact ⟨b, fun k hk => h1 k (by omega), h2⟩
theorem few07_f (l : List S27) (h1 : l.length ≤ 9223372036854775807) (h2 : ∀ p ∈ l, okIn p) :
    ∃ b, (∀ k, 300 ≤ k → sennitref07_Few.f k l = some b) ∧ (b = true → l.length ≤ 12 ∧ ∀ x ∈ l, SmallP x) := by
  obtain ⟨b, hb, hB⟩ := few07_l0 l h1 h2 13 0 (by omega) (by omega) (by omega) (fun j x hj => by omega)
  exact ⟨b, fun k hk => hb k (by omega), hB⟩

end Go.Proofs.Ytiaoppikdgoieaa.Pure
