/- Texts of the claim ZealTells, put together (part 11): pick.Same: closures by contracts of their own. sennitref07.Same: what it tells, as a Lean function, and that the machine's call does what it says. By a program of this session: a Go function as a Lean function, and that the machine's call does what it says. What the functions of layer 7 tell, with rounds enough. Plain Lean. Layer 7: few pieces. Plain Lean. -/
import Derived.ArgAppend
import Derived.Below
import Derived.BigQuiet
import Derived.Deep.AppendLies
import Derived.Deep.CutBlock
import Derived.Deep.DeepCutAuto
import Derived.Deep.Draws
import Derived.Deep.LoopGhost
import Derived.Deep.OwnRows
import Derived.Deep.QuietTactic
import Derived.Deep.RegionHeld3
import Derived.KernelRfl
import Derived.Laws.BitsLemmas
import Derived.Laws.BytesArg
import Derived.Laws.EntriesVeiled
import Derived.Laws.IdiomCopy
import Derived.Laws.MakeOwn
import Derived.Laws.OwnMore
import Derived.Laws.Rows
import Derived.Laws.Slices
import Derived.Laws.StructEq
import Derived.Lib.AppendStr
import Derived.Lib.ConvBytes
import Derived.Maps.AppendAt
import Derived.OrdersHeld
import Derived.OwnWalk
import Derived.RangeFuncBox
import Derived.RowKit
import Derived.RowKit3
import Derived.Tactics
import Derived.Test.YtiaoppikdgoieaaProg
import Derived.WalkKit
import Derived.WideLaws
import Derived.Test.YtiaoppikdgoieaaZealTellsQ10
namespace Go.Proofs.Ytiaoppikdgoieaa.M
open Go.RowKit Go.Proofs Go.Proofs.YtiaoppikdgoieaaW.PrintWords Go.Proofs.YtiaoppikdgoieaaW.PrintLast Go.Proofs.YtiaoppikdgoieaaW.PrintMore Go.Proofs.Ytiaoppikdgoieaa.Hand
attribute [local go_sem] Oper.semAt_some
set_option linter.unusedVariables false
set_option linter.unusedSimpArgs false

set_option maxHeartbeats 4000000 in
set_option maxRecDepth 100000 in
theorem equal53_c (w0 : World) (p : Addr) (A0 : Option Addr) (c0 : Nat) (l0 : List S27) (A1 : Option Addr) (c1 : Nat) (l1 : List S27) (hp : w0.cell? p = some (.func (.func 52) #[] #[])) (hpl : p.block < w0.heap.size)
    (hr0 : Kd.C k27 w0 A0 l0.length l0) (hc0 : l0.length ≤ c0) (hr1 : Kd.C k27 w0 A1 l1.length l1) (hc1 : l1.length ≤ c1) (hle : l0.length ≤ 1000000000) :
    Calls Try.prog 53 #[.slice A0 l0.length c0, .slice A1 l1.length c1, .func (.func 54) #[] #[.pointer (some p)]] w0 fun e w' => e = .returned (.bool (decide (l0.length = l1.length) && (List.zipWith sameP l0 l1).all id)) ∧ Below w0.heap.size w0 w' := by
  have HR0 := Aside0.mk hr0
  have HC0 := Aside0.mk hc0
  have HR1 := Aside0.mk hr1
  have HC1 := Aside0.mk hc1
  have HL0 := Aside0.mk hr0.2.1
  have HL1 := Aside0.mk hr1.2.1
  have HP := Aside0.mk hp
  have HPL := Aside0.mk hpl
  have HLE := Aside0.mk hle
  clear hr0 hc0 hr1 hc1 hp hpl hle
  by_cases hlen : l0.length = l1.length
  · have HN := Aside0.mk hlen
    have e1 : ((l0.length : Int) != (l1.length : Int)) = false := by rw [hlen]; simp
    have e2 : (l0.length != l1.length) = false := by rw [hlen]; simp
    clear hlen
    rw [decide_eq_true HN.out, Bool.true_and]
    go_enter Try.func53, Try.ntmps53
    go_wp2
    repeat (go_quiet (fail); try go_wp2)
    go_loopg [17] l0.length (fun kq v17 w' => ∃ i : Nat, v17 = .int .i64 (i : Int) ∧ Aside0 (i ≤ l0.length ∧ kq = l0.length - i) ∧ Aside0 ((List.zipWith sameP (l0.take i) (l1.take i)).all id = true) ∧ Aside0 (Below w0.heap.size w0 w'))
    case atStart => exact ⟨0, rfl, ⟨Nat.zero_le _, rfl⟩, ⟨by simp⟩, ⟨Below.refl _ _⟩⟩
    case round =>
      obtain ⟨i, rfl, HI, HA, HB⟩ := hrel
      have hli := HL0.out
      by_cases c4 : i < l0.length
      · have c4b0 : decide ((i : Int) < (l0.length : Int)) = true := decide_eq_true (by omega)
        have c4b1 : decide (i < l0.length) = true := decide_eq_true c4
        have c5 : i < l1.length := by have := HN.out; omega
        have c5b1 : decide (i < l1.length) = true := decide_eq_true c5
        obtain ⟨z, g0⟩ : ∃ z, l0[i]? = some z := ⟨_, List.getElem?_eq_getElem c4⟩
        obtain ⟨y, g1⟩ : ∃ y, l1[i]? = some y := ⟨_, List.getElem?_eq_getElem c5⟩
        obtain ⟨ad, a1, m1, a2, m2, a3, m3, rfl, hx0, hx1, hx2, hx3, hl1, hi1, hl2, hi2, hl3, hi3⟩ := C_piece HR0.out i z g0
        obtain ⟨ae, b1, n1, b2, n2, b3, n3, rfl, hy0, hy1, hy2, hy3, gl1, gi1, gl2, gi2, gl3, gi3⟩ := C_piece HR1.out i y g1
        have HSN : Aside0 ((List.zipWith sameP (l0.take (i + 1)) (l1.take (i + 1))).all id = sameP z y) := ⟨by
          rw [take_snoc l0 i z g0, take_snoc l1 i y g1, List.zipWith_append (by simp; omega)]
          have := HA.out
          simp [this]⟩
        have HIN : Aside0 (sameP z y = false → (List.zipWith sameP l0 l1).all id = false) := ⟨fun e => by
          cases hq : (List.zipWith sameP l0 l1).all id with
          | false => rfl
          | true =>
            have := List.all_eq_true.1 hq (sameP z y) (by
              refine List.mem_of_getElem? (i := i) ?_
              rw [List.getElem?_zipWith, g0, g1])
            rw [e] at this
            exact absurd this (by decide)⟩
        have HX0 := Aside0.mk hx0
        have HX1 := Aside0.mk hx1
        have HX2 := Aside0.mk hx2
        have HX3 := Aside0.mk hx3
        have HY0 := Aside0.mk hy0
        have HY1 := Aside0.mk hy1
        have HY2 := Aside0.mk hy2
        have HY3 := Aside0.mk hy3
        have T1 := Aside0.mk hi1
        have T2 := Aside0.mk hi2
        have T3 := Aside0.mk hi3
        have U1 := Aside0.mk gi1
        have U2 := Aside0.mk gi2
        have U3 := Aside0.mk gi3
        have k0 := (HB.out.cell (World.block_lt_of_cell? w0 _ hx0)).trans hx0
        have k1 := (HB.out.cell (World.block_lt_of_cell? w0 _ hx1)).trans hx1
        have k2 := (HB.out.cell (World.block_lt_of_cell? w0 _ hx2)).trans hx2
        have k3 := (HB.out.cell (World.block_lt_of_cell? w0 _ hx3)).trans hx3
        have hB1 : Below w0.heap.size w0 (wr.alloc (.cells #[.bool z.f0, .slice a1 z.f1.length m1, .slice a2 z.f2.length m2, .slice a3 z.f3.length m3] 27)) := below_alloc HB.out _
        have j0 := (hB1.cell (World.block_lt_of_cell? w0 _ hy0)).trans hy0
        have j1 := (hB1.cell (World.block_lt_of_cell? w0 _ hy1)).trans hy1
        have j2 := (hB1.cell (World.block_lt_of_cell? w0 _ hy2)).trans hy2
        have j3 := (hB1.cell (World.block_lt_of_cell? w0 _ hy3)).trans hy3
        have W1b := Aside0.mk hB1
        clear hi1 hi2 hi3 gi1 gi2 gi3 g0 g1 hx0 hx1 hx2 hx3 hy0 hy1 hy2 hy3 hB1
        clear hli
        cases hs : sameP z y with
        | true =>
          rw [hs] at HSN
          have HS := Aside0.mk hs
          clear hs HIN
          go_wp2_with (go_at_call 54; (with_reducible refine (same54_c _ p z.f0 y.f0 z.f1 y.f1 z.f2 y.f2 z.f3 y.f3 a1 a2 a3 b1 b2 b3 m1 m2 m3 n1 n2 n3 ?hp ?hpl ?ha1 hl1 ?ha2 hl2 ?ha3 hl3 ?he1 gl1 ?he2 gl2 ?he3 gl3).mono ?_); (case hp => exact ((below_alloc W1b.out _).cell HPL.out).trans HP.out); (case hpl => exact Nat.lt_of_lt_of_le HPL.out (below_size (below_alloc W1b.out _))); (case ha1 => exact Kd.C_below T1.out (below_alloc W1b.out _)); (case ha2 => exact Kd.C_below T2.out (below_alloc W1b.out _)); (case ha3 => exact Kd.C_below T3.out (below_alloc W1b.out _)); (case he1 => exact Kd.C_below U1.out (below_alloc W1b.out _)); (case he2 => exact Kd.C_below U2.out (below_alloc W1b.out _)); (case he3 => exact Kd.C_below U3.out (below_alloc W1b.out _)); rintro e w' ⟨he, hb⟩; replace he : e = .returned (.bool true) := he.trans (by rw [show sameP ⟨z.f0, z.f1, z.f2, z.f3⟩ ⟨y.f0, y.f1, y.f2, y.f3⟩ = true from HS.out]); subst he; have n1_ := Aside0.mk (below_step (below_alloc W1b.out _) hb); clear hb)
          go_roundg (l0.length - (i + 1))
          case measure => have := HI.out; omega
          case rel => exact ⟨i + 1, by have := HI.out; have := HLE.out; first | rfl | (simp; unfold wrap64; omega), ⟨by omega, rfl⟩, ⟨HSN.out⟩, n1_⟩
        | false =>
          have HS := Aside0.mk hs
          have HIN2 := Aside0.mk (HIN.out hs)
          clear hs HIN
          go_wp2_with (go_at_call 54; (with_reducible refine (same54_c _ p z.f0 y.f0 z.f1 y.f1 z.f2 y.f2 z.f3 y.f3 a1 a2 a3 b1 b2 b3 m1 m2 m3 n1 n2 n3 ?hp ?hpl ?ha1 hl1 ?ha2 hl2 ?ha3 hl3 ?he1 gl1 ?he2 gl2 ?he3 gl3).mono ?_); (case hp => exact ((below_alloc W1b.out _).cell HPL.out).trans HP.out); (case hpl => exact Nat.lt_of_lt_of_le HPL.out (below_size (below_alloc W1b.out _))); (case ha1 => exact Kd.C_below T1.out (below_alloc W1b.out _)); (case ha2 => exact Kd.C_below T2.out (below_alloc W1b.out _)); (case ha3 => exact Kd.C_below T3.out (below_alloc W1b.out _)); (case he1 => exact Kd.C_below U1.out (below_alloc W1b.out _)); (case he2 => exact Kd.C_below U2.out (below_alloc W1b.out _)); (case he3 => exact Kd.C_below U3.out (below_alloc W1b.out _)); rintro e w' ⟨he, hb⟩; replace he : e = .returned (.bool false) := he.trans (by rw [show sameP ⟨z.f0, z.f1, z.f2, z.f3⟩ ⟨y.f0, y.f1, y.f2, y.f3⟩ = false from HS.out]); subst he; have n1_ := Aside0.mk (below_step (below_alloc W1b.out _) hb); clear hb)
          go_ret
          exact ⟨by rw [HIN2.out]; rfl, n1_.out⟩
      · have c4b0 : decide ((i : Int) < (l0.length : Int)) = false := decide_eq_false (by omega)
        have c4b1 : decide (i < l0.length) = false := decide_eq_false c4
        have HQ : Aside0 ((List.zipWith sameP l0 l1).all id = true) := ⟨by
          have := HA.out
          rwa [List.take_of_length_le (by omega), List.take_of_length_le (by have := HN.out; omega)] at this⟩
        go_wp2
        repeat (go_quiet (fail); try go_wp2)
        go_ret
        exact ⟨by rw [HQ.out]; rfl, HB.out⟩
  · have HN := Aside0.mk hlen
    have e1 : ((l0.length : Int) != (l1.length : Int)) = true := bne_iff_ne.mpr (by omega)
    have e2 : (l0.length != l1.length) = true := bne_iff_ne.mpr hlen
    clear hlen
    rw [decide_eq_false HN.out, Bool.false_and]
    go_enter Try.func53, Try.ntmps53
    go_wp2
    repeat (go_quiet (fail); try go_wp2)
    go_ret
    exact ⟨rfl, Below.refl _ _⟩

theorem sameP_all (a b : List S27) : (decide (a.length = b.length) && (List.zipWith sameP a b).all id) = true ↔ a = b := by
  induction a generalizing b with
  | nil => cases b <;> simp
  | cons x t ih =>
    cases b with
    | nil => simp
    | cons y u =>
      have := ih u
      simp only [Bool.and_eq_true, decide_eq_true_eq] at this
      simp only [List.length_cons, List.zipWith_cons_cons, List.all_cons, id_eq, Bool.and_eq_true, decide_eq_true_eq, List.cons.injEq, sameP_iff, ← this, Nat.add_right_cancel_iff]
      constructor
      · rintro ⟨h1, h2, h3⟩; exact ⟨h2, h1, h3⟩
      · rintro ⟨h1, h2, h3⟩; exact ⟨h2, h1, h3⟩
def sameG (a b : List S27) : Bool := decide (a.length = b.length) && (List.zipWith sameP a b).all id
def pick_Same.f (k : Nat) (l0 l1 : List S27) : Option Bool := if l0.length ≤ 1000000000 then some (sameG l0 l1) else none
theorem pick_Same.mono : ∀ a0 a1 k, LeO (pick_Same.f k a0 a1) (pick_Same.f (k + 1) a0 a1) := fun _ _ _ => LeO.refl _
set_option maxHeartbeats 1000000 in
theorem pick_Same.calls (k : Nat) (A0 : Option Addr) (c0 : Nat) (l0 : List S27) (A1 : Option Addr) (c1 : Nat) (l1 : List S27) (r : Bool) (w : World) (hr0 : Kd.C k27 w A0 l0.length l0) (hc0 : l0.length ≤ c0) (hr1 : Kd.C k27 w A1 l1.length l1) (hc1 : l1.length ≤ c1) (h : pick_Same.f k l0 l1 = some r) :
    Calls Try.prog 33 #[.slice A0 l0.length c0, .slice A1 l1.length c1] w fun e w' => e = .returned (.bool r) ∧ Below w.heap.size w w' := by
  unfold pick_Same.f at h
  by_cases hb : l0.length ≤ 1000000000
  · rw [if_pos hb] at h
    obtain rfl := Option.some.inj h
    have HC := Aside0.mk (equal53_c (w.alloc (.cells #[.func (.func 52) #[] #[]] 33)) ⟨w.heap.size, 0, none⟩ A0 c0 l0 A1 c1 l1 (cell_new _ _ _) (by simp) (Kd.C_alloc hr0 _) hc0 (Kd.C_alloc hr1 _) hc1 hb)
    have HB := Aside0.mk (below_alloc (Below.refl w.heap.size w) (.cells #[.func (.func 52) #[] #[]] 33))
    clear hr0 hc0 hr1 hc1 hb h
    show Calls Try.prog 33 _ w fun e w' => e = .returned (.bool (decide (l0.length = l1.length) && (List.zipWith sameP l0 l1).all id)) ∧ Below w.heap.size w w'
    generalize (decide (l0.length = l1.length) && (List.zipWith sameP l0 l1).all id) = b at HC ⊢
    go_enter Try.func33, Try.ntmps33
    go_wp2_with (go_at_call 53; (with_reducible refine HC.out.mono ?_); rintro e w' ⟨rfl, hb⟩; have HB2 := Aside0.mk (HB.out.trans (hb.mono (by simp))); clear hb)
    go_ret
    exact ⟨rfl, HB2.out⟩
  · rw [if_neg hb] at h
    exact absurd h (by simp)
end Go.Proofs.Ytiaoppikdgoieaa.M
namespace Go.Proofs.Ytiaoppikdgoieaa.M
open Go.RowKit Go.Proofs Go.Proofs.YtiaoppikdgoieaaW.PrintWords Go.Proofs.YtiaoppikdgoieaaW.PrintLast Go.Proofs.YtiaoppikdgoieaaW.PrintMore Go.Proofs.Ytiaoppikdgoieaa.Hand
attribute [local go_sem] Oper.semAt_some
set_option linter.unusedVariables false
set_option linter.unusedSimpArgs false

theorem rsame_c (a b : List ByteArray) (A0 : Option Addr) (c0 : Nat) (A1 : Option Addr) (c1 : Nat) (w : World) (hr0 : Kd.C Kd.string w A0 a.length a) (hc0 : a.length ≤ c0) (hr1 : Kd.C Kd.string w A1 b.length b) (hc1 : b.length ≤ c1) :
    Calls Try.prog 24 #[.slice A0 a.length c0, .slice A1 b.length c1] w fun e w' => e = .returned (.bool (decide (a = b))) ∧ Drawn0 w w' :=
  sennitref01_Same.calls (a.length + 1) _ _ a _ _ b _ _ hr0 hc0 hr1 hc1 (Pure.same_f a b hr0.2.1 (a.length + 1) (by omega))
theorem rall_c (a b : List (List ByteArray)) (A0 : Option Addr) (c0 : Nat) (A1 : Option Addr) (c1 : Nat) (w : World) (hr0 : Kd.C (Kd.slice 9 Kd.string) w A0 a.length a) (hc0 : a.length ≤ c0) (hr1 : Kd.C (Kd.slice 9 Kd.string) w A1 b.length b) (hc1 : b.length ≤ c1) (hs : a.length ≤ 900 ∧ ∀ x ∈ a, x.length < 900) :
    Calls Try.prog 28 #[.slice A0 a.length c0, .slice A1 b.length c1] w fun e w' => e = .returned (.bool (decide (a = b))) ∧ Drawn0 w w' :=
  sennitref06_All.calls (a.length + 1000) _ _ a _ _ b _ _ hr0 hc0 hr1 hc1 (Pure.all_f a b 900 hs.2 (by omega) (by omega) (a.length + 1000) (by omega))

def okS (l : List S27) : Prop := l.length ≤ 1000000 ∧ ∀ p ∈ l, p.f3.length ≤ 900 ∧ ∀ x ∈ p.f3, x.length < 900
instance (l : List S27) : Decidable (okS l) := inferInstanceAs (Decidable (_ ∧ _))
set_option maxHeartbeats 8000000 in
set_option maxRecDepth 100000 in
theorem rsame34_c (w : World) (A0 : Option Addr) (c0 : Nat) (l0 : List S27) (A1 : Option Addr) (c1 : Nat) (l1 : List S27) (hr0 : Kd.C k27 w A0 l0.length l0) (hc0 : l0.length ≤ c0) (hr1 : Kd.C k27 w A1 l1.length l1) (hc1 : l1.length ≤ c1) (hok : okS l0) :
    Calls Try.prog 34 #[.slice A0 l0.length c0, .slice A1 l1.length c1] w fun e w' => e = .returned (.bool (sameG l0 l1)) ∧ Drawn0 w w' := by
  have HR0 := Aside0.mk hr0
  have HR1 := Aside0.mk hr1
  have HLE := Aside0.mk hok.1
  have HOK := Aside0.mk hok.2
  clear hr0 hc0 hr1 hc1 hok
  have HG : Aside0 (sameG l0 l1 = (decide (l0.length = l1.length) && (List.zipWith sameP l0 l1).all id)) := ⟨rfl⟩
  rw [HG.out]
  by_cases hlen : l0.length = l1.length
  · have HN := Aside0.mk hlen
    have e1 : ((l0.length : Int) != (l1.length : Int)) = false := by rw [hlen]; simp
    have e2 : (l0.length != l1.length) = false := by rw [hlen]; simp
    clear hlen
    rw [decide_eq_true HN.out, Bool.true_and]
    go_enter Try.func34, Try.ntmps34
    go_wp2
    go_loopg [5] l0.length (fun kq v5 w' => ∃ i : Nat, v5 = .int .i64 (i : Int) ∧ Aside0 (i ≤ l0.length ∧ kq = l0.length - i) ∧ Aside0 ((List.zipWith sameP (l0.take i) (l1.take i)).all id = true) ∧ Drawn0 w w')
    case atStart => exact ⟨0, rfl, ⟨Nat.zero_le _, rfl⟩, ⟨by simp⟩, Drawn0.refl _⟩
    case round =>
      obtain ⟨i, rfl, HI, HA, ⟨m1, rfl⟩⟩ := hrel
      by_cases c4 : i < l0.length
      · have c4b0 : decide ((i : Int) < (l0.length : Int)) = true := decide_eq_true (by omega)
        have c4b1 : decide (i < l0.length) = true := decide_eq_true c4
        have c5 : i < l1.length := by have := HN.out; omega
        have c5b1 : decide (i < l1.length) = true := decide_eq_true c5
        obtain ⟨z, g0⟩ : ∃ z, l0[i]? = some z := ⟨_, List.getElem?_eq_getElem c4⟩
        obtain ⟨y, g1⟩ : ∃ y, l1[i]? = some y := ⟨_, List.getElem?_eq_getElem c5⟩
        obtain ⟨ad, a1, m1', a2, m2, a3, m3, rfl, hx0, hx1, hx2, hx3, hl1, hi1, hl2, hi2, hl3, hi3⟩ := C_piece HR0.out i z g0
        obtain ⟨ae, b1, n1, b2, n2, b3, n3, rfl, hy0, hy1, hy2, hy3, gl1, gi1, gl2, gi2, gl3, gi3⟩ := C_piece HR1.out i y g1
        have HSN : Aside0 ((List.zipWith sameP (l0.take (i + 1)) (l1.take (i + 1))).all id = sameP z y) := ⟨by
          rw [take_snoc l0 i z g0, take_snoc l1 i y g1, List.zipWith_append (by simp; omega)]
          have := HA.out
          simp [this]⟩
        have HIN : Aside0 (sameP z y = false → (List.zipWith sameP l0 l1).all id = false) := ⟨fun e => by
          cases hq : (List.zipWith sameP l0 l1).all id with
          | false => rfl
          | true =>
            have := List.all_eq_true.1 hq (sameP z y) (by
              refine List.mem_of_getElem? (i := i) ?_
              rw [List.getElem?_zipWith, g0, g1])
            rw [e] at this
            exact absurd this (by decide)⟩
        have HZ := Aside0.mk (HOK.out z (List.mem_of_getElem? g0))
        have T1 := Aside0.mk hi1
        have T2 := Aside0.mk hi2
        have T3 := Aside0.mk hi3
        have U1 := Aside0.mk gi1
        have U2 := Aside0.mk gi2
        have U3 := Aside0.mk gi3
        have LL := Aside0.mk (And.intro hl1 (And.intro hl2 (And.intro hl3 (And.intro gl1 (And.intro gl2 gl3)))))
        clear hi1 hi2 hi3 gi1 gi2 gi3 g0 g1 hl1 hl2 hl3 gl1 gl2 gl3
        have key : Aside0 (sameP z y = (decide (z.f0 = y.f0) && (decide (z.f1 = y.f1) && (decide (z.f2 = y.f2) && decide (z.f3 = y.f3))))) := ⟨rfl⟩
        obtain ⟨s3, h3⟩ : ∃ s3, s3 = decide (z.f3 = y.f3) := ⟨_, rfl⟩
        obtain ⟨s1, h1⟩ : ∃ s1, s1 = decide (z.f1 = y.f1) := ⟨_, rfl⟩
        obtain ⟨s2, h2⟩ : ∃ s2, s2 = decide (z.f2 = y.f2) := ⟨_, rfl⟩
        obtain ⟨p0, hp0⟩ : ∃ p0, p0 = z.f0 := ⟨_, rfl⟩
        obtain ⟨q0, hq0⟩ : ∃ q0, q0 = y.f0 := ⟨_, rfl⟩
        have KEY := Aside0.mk key.out
        rw [← h1, ← h2, ← h3, ← hp0, ← hq0] at KEY
        rw [← hp0] at hx0
        rw [← hq0] at hy0
        have H1 := Aside0.mk h1
        have H2 := Aside0.mk h2
        have H3 := Aside0.mk h3
        clear h1 h2 h3 key hp0 hq0
        cases p0 <;> cases q0 <;> cases s1 <;> cases s2 <;> cases s3
        all_goals
          go_wp2
          repeat (go_quiet (first
            | (go_at_call 24; (with_reducible refine (rsame_c z.f1 y.f1 a1 m1' b1 n1 _ ?sa ?sb ?sc ?sd).mono ?_); (case sa => with_reducible exact Kd.C_drewN T1.out _); (case sb => exact LL.out.1); (case sc => with_reducible exact Kd.C_drewN U1.out _); (case sd => exact LL.out.2.2.2.1); rintro e w' ⟨he, ⟨nd1, rfl⟩⟩; rw [← H1.out] at he; subst he; (try first | exact ⟨rfl, _, World.drewN_drewN _ _ _⟩ | exact ⟨rfl, _, Eq.trans (World.drewN_drewN _ _ _) (congrArg (World.drewN _) (Nat.add_assoc _ _ _))⟩))
            | (go_at_call 24; (with_reducible refine (rsame_c z.f2 y.f2 a2 m2 b2 n2 _ ?sa ?sb ?sc ?sd).mono ?_); (case sa => with_reducible exact Kd.C_drewN T2.out _); (case sb => exact LL.out.2.1); (case sc => with_reducible exact Kd.C_drewN U2.out _); (case sd => exact LL.out.2.2.2.2.1); rintro e w' ⟨he, ⟨nd1, rfl⟩⟩; rw [← H2.out] at he; subst he; (try first | exact ⟨rfl, _, World.drewN_drewN _ _ _⟩ | exact ⟨rfl, _, Eq.trans (World.drewN_drewN _ _ _) (congrArg (World.drewN _) (Nat.add_assoc _ _ _))⟩))
            | (go_at_call 28; (with_reducible refine (rall_c z.f3 y.f3 a3 m3 b3 n3 _ ?sa ?sb ?sc ?sd HZ.out).mono ?_); (case sa => with_reducible exact Kd.C_drewN T3.out _); (case sb => exact LL.out.2.2.1); (case sc => with_reducible exact Kd.C_drewN U3.out _); (case sd => exact LL.out.2.2.2.2.2); rintro e w' ⟨he, ⟨nd1, rfl⟩⟩; rw [← H3.out] at he; subst he; (try first | exact ⟨rfl, _, World.drewN_drewN _ _ _⟩ | exact ⟨rfl, _, Eq.trans (World.drewN_drewN _ _ _) (congrArg (World.drewN _) (Nat.add_assoc _ _ _))⟩))); try go_wp2)
        all_goals first
          | (go_ret; exact ⟨by rw [HIN.out (by rw [KEY.out]; rfl)]; rfl, by repeat (first | exact Drawn0.refl _ | apply Drawn0.step)⟩)
          | (go_roundg (l0.length - (i + 1))
             case measure => have := HI.out; omega
             case rel => exact ⟨i + 1, by have := HI.out; have := HLE.out; first | rfl | (simp; unfold wrap64; omega), ⟨by omega, rfl⟩, ⟨by rw [HSN.out, KEY.out]; rfl⟩, by repeat (first | exact Drawn0.refl _ | apply Drawn0.step)⟩)
      · have c4b0 : decide ((i : Int) < (l0.length : Int)) = false := decide_eq_false (by omega)
        have c4b1 : decide (i < l0.length) = false := decide_eq_false c4
        have HQ : Aside0 ((List.zipWith sameP l0 l1).all id = true) := ⟨by
          have := HA.out
          rwa [List.take_of_length_le (by omega), List.take_of_length_le (by have := HN.out; omega)] at this⟩
        go_wp2
        go_ret
        exact ⟨by rw [HQ.out]; rfl, ⟨⟨_, rfl⟩⟩⟩
  · have HN := Aside0.mk hlen
    have e1 : ((l0.length : Int) != (l1.length : Int)) = true := bne_iff_ne.mpr (by omega)
    have e2 : (l0.length != l1.length) = true := bne_iff_ne.mpr hlen
    clear hlen
    rw [decide_eq_false HN.out, Bool.false_and]
    go_enter Try.func34, Try.ntmps34
    go_wp2
    go_ret
    exact ⟨rfl, Drawn0.refl _⟩
def sennitref07_Same.f (k : Nat) (l0 l1 : List S27) : Option Bool := if okS l0 then some (sameG l0 l1) else none
theorem sennitref07_Same.mono : ∀ a0 a1 k, LeO (sennitref07_Same.f k a0 a1) (sennitref07_Same.f (k + 1) a0 a1) := fun _ _ _ => LeO.refl _
theorem sennitref07_Same.calls (k : Nat) (A0 : Option Addr) (c0 : Nat) (l0 : List S27) (A1 : Option Addr) (c1 : Nat) (l1 : List S27) (r : Bool) (w : World) (hr0 : Kd.C k27 w A0 l0.length l0) (hc0 : l0.length ≤ c0) (hr1 : Kd.C k27 w A1 l1.length l1) (hc1 : l1.length ≤ c1) (h : sennitref07_Same.f k l0 l1 = some r) :
    Calls Try.prog 34 #[.slice A0 l0.length c0, .slice A1 l1.length c1] w fun e w' => e = .returned (.bool r) ∧ Drawn0 w w' := by
  unfold sennitref07_Same.f at h
  split at h
  · next hb =>
    obtain rfl := Option.some.inj h
    exact rsame34_c w A0 c0 l0 A1 c1 l1 hr0 hc0 hr1 hc1 hb
  · cases h
end Go.Proofs.Ytiaoppikdgoieaa.M
namespace Go.Proofs.Ytiaoppikdgoieaa.M
open Go.RowKit Go.Proofs.YtiaoppikdgoieaaW.PrintWords Go.Proofs.YtiaoppikdgoieaaW.PrintLast Go.Proofs.YtiaoppikdgoieaaW.PrintMore Go.Proofs.Ytiaoppikdgoieaa.Hand
attribute [local go_sem] max2_int min2_int max_two min_two max_three min_three max_four min_four
set_option linter.unusedVariables false
set_option linter.unusedSimpArgs false

/-! ### sennitlaw10_ZealTells: function 10 -/
def sennitlaw10_ZealTells.j0 : Nat → List (S27) → Bool → Bool → Bool → List ByteArray → List ByteArray → List (List ByteArray) → Option (Bool)
  | 0, _, _, _, _, _, _, _ => none
  | k + 1, x1, x5, x15, x364000, x364001, x364002, x364003 => if x15 = true then (some x5) else (if x5 = true then ((zeal_Trim.f k x364000 x364001 x364002 x364003).bind fun t370 => ((sennitref10_Trim.f k x364000 x364001 x364002 x364003).bind fun t373 => ((sennitref07_Same.f k t370 t373).bind fun t376 => (if t376 = true then ((zeal_Zeal.f k x1).bind fun t377 => ((sennitref10_Zeal.f k x1).bind fun t380 => ((sennitref07_Same.f k t377 t380).bind fun t383 => (some t383)))) else (none))))) else (none))
def sennitlaw10_ZealTells.f (k : Nat) (a0_0 : Bool) (l0_1 : List ByteArray) (l0_2 : List ByteArray) (l0_3 : List (List ByteArray)) (l1 : List (S27)) : Option (Bool) := (sennitlaw10_awake.f k).bind fun t364 => ((sennitref07_Few.f k l1).bind fun t365 => (if t365 = true then ((sennitref07_Few.f k (([(⟨a0_0, l0_1, l0_2, l0_3⟩ : S27)] : List (S27)))).bind fun t369 => (sennitlaw10_ZealTells.j0 k l1 t364 (!t369) a0_0 l0_1 l0_2 l0_3)) else (sennitlaw10_ZealTells.j0 k l1 t364 true a0_0 l0_1 l0_2 l0_3)))
theorem sennitlaw10_ZealTells.mono_l : ∀ k, (∀ y0 y1 y2 y3 y4 y5 y6, LeO (sennitlaw10_ZealTells.j0 k y0 y1 y2 y3 y4 y5 y6) (sennitlaw10_ZealTells.j0 (k + 1) y0 y1 y2 y3 y4 y5 y6))
  | 0 => fun _ _ _ _ _ _ _ r h => by simp [sennitlaw10_ZealTells.j0] at h
  | k + 1 => by
    have ih0 := sennitlaw10_ZealTells.mono_l k
    · intro y0 y1 y2 y3 y4 y5 y6
      unfold sennitlaw10_ZealTells.j0
      repeat' first
      | (with_reducible exact ih0 _ _ _ _ _ _ _)
      | (with_reducible exact sennitlaw10_awake.mono _)
      | (with_reducible exact sennitref07_Few.mono _ _)
      | (with_reducible exact sennitref07_Same.mono _ _ _)
      | (with_reducible exact sennitref10_Trim.mono _ _ _ _ _)
      | (with_reducible exact sennitref10_Zeal.mono _ _)
      | (with_reducible exact zeal_Trim.mono _ _ _ _ _)
      | (with_reducible exact zeal_Zeal.mono _ _)
      | (with_reducible exact LeO.refl _)
      | (with_reducible exact LeO.none _)
      | (with_reducible refine LeO.ite ?_ ?_)
      | (with_reducible refine LeO.bind ?_ (fun _ => ?_))
      | exact ih0 _ _ _ _ _ _ _
      | exact sennitlaw10_awake.mono _
      | exact sennitref07_Few.mono _ _
      | exact sennitref07_Same.mono _ _ _
      | exact sennitref10_Trim.mono _ _ _ _ _
      | exact sennitref10_Zeal.mono _ _
      | exact zeal_Trim.mono _ _ _ _ _
      | exact zeal_Zeal.mono _ _
      | exact LeO.none _
      | refine LeO.ite ?_ ?_
      | refine LeO.bind ?_ (fun _ => ?_)
theorem sennitlaw10_ZealTells.mono : ∀ a0 a1 a2 a3 a4 k, LeO (sennitlaw10_ZealTells.f k a0 a1 a2 a3 a4) (sennitlaw10_ZealTells.f (k + 1) a0 a1 a2 a3 a4) := by
  intro a0 a1 a2 a3 a4 k
  have ih0 := sennitlaw10_ZealTells.mono_l k
  unfold sennitlaw10_ZealTells.f
  repeat' first
      | (with_reducible exact ih0 _ _ _ _ _ _ _)
      | (with_reducible exact sennitlaw10_awake.mono _)
      | (with_reducible exact sennitref07_Few.mono _ _)
      | (with_reducible exact sennitref07_Same.mono _ _ _)
      | (with_reducible exact sennitref10_Trim.mono _ _ _ _ _)
      | (with_reducible exact sennitref10_Zeal.mono _ _)
      | (with_reducible exact zeal_Trim.mono _ _ _ _ _)
      | (with_reducible exact zeal_Zeal.mono _ _)
      | (with_reducible exact LeO.refl _)
      | (with_reducible exact LeO.none _)
      | (with_reducible refine LeO.ite ?_ ?_)
      | (with_reducible refine LeO.bind ?_ (fun _ => ?_))
      | exact ih0 _ _ _ _ _ _ _
      | exact sennitlaw10_awake.mono _
      | exact sennitref07_Few.mono _ _
      | exact sennitref07_Same.mono _ _ _
      | exact sennitref10_Trim.mono _ _ _ _ _
      | exact sennitref10_Zeal.mono _ _
      | exact zeal_Trim.mono _ _ _ _ _
      | exact zeal_Zeal.mono _ _
      | exact LeO.none _
      | refine LeO.ite ?_ ?_
      | refine LeO.bind ?_ (fun _ => ?_)
def sennitlaw10_ZealTells.T4 : Bool × List (List Nat × List Nat) := (true, [([], []), ([0], [0]), ([1], [1]), ([2, 1, 1], [1, 2]), ([1], [1]), ([4, 3, 1], [1, 4]), ([3, 5, 5, 1], [1, 3, 5]), ([1, 6], [1, 6]), ([7, 6], [7]), ([8], [8]), ([9, 8, 8], [8, 9]), ([8], [8]), ([11, 10, 8], [8, 11]), ([10, 12, 12, 8], [8, 10, 12]), ([8, 13], [8, 13]), ([14, 13, 0, 1, 2, 3, 4, 5, 6, 7, 8, 9, 10, 11, 12, 13, 14], [14])])
def sennitlaw10_ZealTells.B4 : List Nat := [0, 1, 3, 7, 3, 31, 63, 127, 255, 511, 1023, 511, 4095, 8191, 16383, 32767]
theorem sennitlaw10_ZealTells.tab4 : rtab .any (opsOf Try.f10 4) = sennitlaw10_ZealTells.T4 := by kernel_rfl
theorem sennitlaw10_ZealTells.bits4 : waitsOk sennitlaw10_ZealTells.T4.2 sennitlaw10_ZealTells.B4 = true := by kernel_rfl
set_option maxHeartbeats 8000000 in
set_option maxRecDepth 100000 in
theorem sennitlaw10_ZealTells.calls (k : Nat) (a0_0 : Bool) (P0_1_ : Nat → Prop) (A0_1 : Option Addr) (c0_1 : Nat) (l0_1 : List ByteArray) (P0_2_ : Nat → Prop) (A0_2 : Option Addr) (c0_2 : Nat) (l0_2 : List ByteArray) (P0_3_ : Nat → Prop) (A0_3 : Option Addr) (c0_3 : Nat) (l0_3 : List (List ByteArray)) (P1_ : Nat → Prop) (A1 : Option Addr) (c1 : Nat) (l1 : List (S27)) (r : Bool) (w : World) (hs0_1 : Kd.V Kd.string 9 w w.heap.size (fun k_ => P0_1_ k_) (.slice A0_1 l0_1.length c0_1) l0_1) (hs0_2 : Kd.V Kd.string 9 w w.heap.size (fun k_ => P0_2_ k_) (.slice A0_2 l0_2.length c0_2) l0_2) (hs0_3 : Kd.V (Kd.slice 9 Kd.string) 22 w w.heap.size (fun k_ => P0_3_ k_) (.slice A0_3 l0_3.length c0_3) l0_3) (hs1 : Kd.V k27 27 w w.heap.size (fun k_ => P1_ k_) (.slice A1 l1.length c1) l1) (h : sennitlaw10_ZealTells.f k a0_0 l0_1 l0_2 l0_3 l1 = some r) :
    Calls Try.prog 10 #[.agg #[.bool a0_0, .slice A0_1 l0_1.length c0_1, .slice A0_2 l0_2.length c0_2, .slice A0_3 l0_3.length c0_3], .slice A1 l1.length c1] w fun e w' => e = .returned (.bool r) ∧ Below w.heap.size w w' := by
  have hu27 := Try.underlying27
  have HO0_1 := am (show Kd.V Kd.string 9 w w.heap.size (fun k_ => ((P0_1_ k_ ∨ P0_2_ k_ ∨ P0_3_ k_ ∨ P1_ k_) ∨ w.heap.size ≤ k_)) (.slice A0_1 l0_1.length c0_1) l0_1 from Kd.V_mono hs0_1 (fun k_ hk => .inl (.inl hk)))
  have HO0_2 := am (show Kd.V Kd.string 9 w w.heap.size (fun k_ => ((P0_1_ k_ ∨ P0_2_ k_ ∨ P0_3_ k_ ∨ P1_ k_) ∨ w.heap.size ≤ k_)) (.slice A0_2 l0_2.length c0_2) l0_2 from Kd.V_mono hs0_2 (fun k_ hk => .inl (.inr (.inl hk))))
  have HO0_3 := am (show Kd.V (Kd.slice 9 Kd.string) 22 w w.heap.size (fun k_ => ((P0_1_ k_ ∨ P0_2_ k_ ∨ P0_3_ k_ ∨ P1_ k_) ∨ w.heap.size ≤ k_)) (.slice A0_3 l0_3.length c0_3) l0_3 from Kd.V_mono hs0_3 (fun k_ hk => .inl (.inr (.inr (.inl hk)))))
  have HO1 := am (show Kd.V k27 27 w w.heap.size (fun k_ => ((P0_1_ k_ ∨ P0_2_ k_ ∨ P0_3_ k_ ∨ P1_ k_) ∨ w.heap.size ≤ k_)) (.slice A1 l1.length c1) l1 from Kd.V_mono hs1 (fun k_ hk => .inl (.inr (.inr (.inr hk)))))
  have HB := am (Below.refl w.heap.size w)
  have H : ((sennitlaw10_awake.f k).bind fun t364 => ((sennitref07_Few.f k l1).bind fun t365 => (if t365 = true then ((sennitref07_Few.f k (([(⟨a0_0, l0_1, l0_2, l0_3⟩ : S27)] : List (S27)))).bind fun t369 => (sennitlaw10_ZealTells.j0 k l1 t364 (!t369) a0_0 l0_1 l0_2 l0_3)) else (sennitlaw10_ZealTells.j0 k l1 t364 true a0_0 l0_1 l0_2 l0_3)))) = some r := h
  clear h
  replace H := Option.bind_eq_some_iff.mp H
  obtain ⟨t364, A30, H⟩ := H
  replace H : ((sennitref07_Few.f k l1).bind fun t365 => (if t365 = true then ((sennitref07_Few.f k (([(⟨a0_0, l0_1, l0_2, l0_3⟩ : S27)] : List (S27)))).bind fun t369 => (sennitlaw10_ZealTells.j0 k l1 t364 (!t369) a0_0 l0_1 l0_2 l0_3)) else (sennitlaw10_ZealTells.j0 k l1 t364 true a0_0 l0_1 l0_2 l0_3))) = some r := H
  have A3 := am A30
  clear A30
  have HC4 := am H
  clear H
  go_enter Try.func10, Try.ntmps10
  go_upto_region 2 with (first | ((with_reducible refine gate_dst (N := 2) rfl ?_); (try (refine gate_guard (by rfl) ?_; dsimp only)); refine box_event ?hg (N := 2) ?hd (cs := #[.bool a0_0, .slice A0_1 l0_1.length c0_1, .slice A0_2 l0_2.length c0_2, .slice A0_3 l0_3.length c0_3]) (t := 27) ?hr ?_; (case hd => rfl); (case hg => rfl); (case hr => first | (go_simp; done) | (go_simp; rfl)); intro gb363 hg w5 hbox hb; have n0_ := am (Kd.V_below (Kd.V_elderB (by (with_reducible repeat (first | apply vA | apply vN | apply vD)); exact HO0_1.out) gb363 (Nat.le_of_eq hg.symm)) hb); have n1_ := am (Kd.V_below (Kd.V_elderB (by (with_reducible repeat (first | apply vA | apply vN | apply vD)); exact HO0_2.out) gb363 (Nat.le_of_eq hg.symm)) hb); have n2_ := am (Kd.V_below (Kd.V_elderB (by (with_reducible repeat (first | apply vA | apply vN | apply vD)); exact HO0_3.out) gb363 (Nat.le_of_eq hg.symm)) hb); have n3_ := am (Kd.V_below (Kd.V_elderB (by (with_reducible repeat (first | apply vA | apply vN | apply vD)); exact HO1.out) gb363 (Nat.le_of_eq hg.symm)) hb); have n4_ := am (below_step (by repeat (with_reducible first | exact HB.out | apply bA | apply bN | apply bD)) hb); have n5_ := am (hbox); have n6_ := am ((by rw [hg]; exact (below_size (by repeat (with_reducible first | exact HB.out | apply bA | apply bN | apply bD))) : w.heap.size ≤ gb363)); have n7_ := am ((by rw [hg]; exact (below_size (by repeat (with_reducible first | exact HB.out | apply bA | apply bN | apply bD))) : w.heap.size ≤ gb363)); clear HO0_1; clear HO0_2; clear HO0_3; clear HO1; clear HB; have HO0_1 := n0_; have HO0_2 := n1_; have HO0_3 := n2_; have HO1 := n3_; have HB := n4_; have BK363 := n5_; have GW363 := n6_; have GE363 := n7_; clear n0_ n1_ n2_ n3_ n4_ n5_ n6_ n7_; clear hb hbox hg) | ((with_reducible refine gate_callee (f := 35) rfl ?_); refine goesL_ (some 6) rfl rfl Try.func35 (by kernel_rfl) rfl #[] rfl (by (try simp only [List.map_toArray, List.map_cons, List.map_nil]); first | done | rfl | (simp only [List.length_drop, List.length_take]; rfl)) ?_; (with_reducible refine (sennitlaw10_awake.calls k  t364 _ A3.out).mono ?_); rintro e w6 ⟨rfl, hb⟩; refine ⟨_, rfl, ?_⟩; have n0_ := am (Kd.V_below (by (with_reducible repeat (first | apply vA | apply vN | apply vD)); exact HO0_1.out) hb); have n1_ := am (Kd.V_below (by (with_reducible repeat (first | apply vA | apply vN | apply vD)); exact HO0_2.out) hb); have n2_ := am (Kd.V_below (by (with_reducible repeat (first | apply vA | apply vN | apply vD)); exact HO0_3.out) hb); have n3_ := am (Kd.V_below (by (with_reducible repeat (first | apply vA | apply vN | apply vD)); exact HO1.out) hb); have n4_ := am (blk_below (g := gb363) (o := .cells #[.bool a0_0, .slice A0_1 l0_1.length c0_1, .slice A0_2 l0_2.length c0_2, .slice A0_3 l0_3.length c0_3] 27 (0, 0)) (by (with_reducible repeat (first | refine blk_drewN ?_ _ | refine blk_drew ?_ | refine blk_alloc ?_ _)); exact BK363.out) hb); have n5_ := am (below_step (by repeat (first | (with_reducible first | exact HB.out | apply below_alloc | apply pw_below_drewN | apply below_drew1 | refine below_set ?_ GE363.out) | exact HB.out)) hb); clear HO0_1; clear HO0_2; clear HO0_3; clear HO1; clear BK363; clear HB; have HO0_1 := n0_; have HO0_2 := n1_; have HO0_3 := n2_; have HO1 := n3_; have BK363 := n4_; have HB := n5_; clear n0_ n1_ n2_ n3_ n4_ n5_; (try clear hb); (try clear hb2); (try clear hk); (try clear hi)))
  (try simp only [Act.put, List.setIfInBounds_toArray, List.set_cons_zero, List.set_cons_succ])
  go_cut [15] (fun v15 wc => ∃ (kq : Nat) (x15_3 : Bool), v15 = .bool x15_3 ∧ Aside0 (sennitlaw10_ZealTells.j0 kq l1 t364 x15_3 a0_0 l0_1 l0_2 l0_3 = some r) ∧ Aside0 (kq ≤ k) ∧ Aside0 (Kd.V k27 27 wc w.heap.size (fun k_ => ((P0_1_ k_ ∨ P0_2_ k_ ∨ P0_3_ k_ ∨ P1_ k_) ∨ w.heap.size ≤ k_) ∧ k_ ≠ gb363) (.slice A1 l1.length c1) l1) ∧ Aside0 (Kd.V Kd.string 9 wc w.heap.size (fun k_ => ((P0_1_ k_ ∨ P0_2_ k_ ∨ P0_3_ k_ ∨ P1_ k_) ∨ w.heap.size ≤ k_) ∧ k_ ≠ gb363) (.slice A0_1 l0_1.length c0_1) l0_1) ∧ Aside0 (Kd.V Kd.string 9 wc w.heap.size (fun k_ => ((P0_1_ k_ ∨ P0_2_ k_ ∨ P0_3_ k_ ∨ P1_ k_) ∨ w.heap.size ≤ k_) ∧ k_ ≠ gb363) (.slice A0_2 l0_2.length c0_2) l0_2) ∧ Aside0 (Kd.V (Kd.slice 9 Kd.string) 22 wc w.heap.size (fun k_ => ((P0_1_ k_ ∨ P0_2_ k_ ∨ P0_3_ k_ ∨ P1_ k_) ∨ w.heap.size ≤ k_) ∧ k_ ≠ gb363) (.slice A0_3 l0_3.length c0_3) l0_3) ∧ Aside0 (wc.heap[gb363]? = some (.cells #[.bool a0_0, (.slice A0_1 l0_1.length c0_1), (.slice A0_2 l0_2.length c0_2), (.slice A0_3 l0_3.length c0_3)] 27 (0, 0))) ∧ Aside0 (Below w.heap.size w wc))
  case first =>
    have H := HC4.out
    clear HC4
    replace H := Option.bind_eq_some_iff.mp H
    obtain ⟨t365, A70, H⟩ := H
    replace H : (if t365 = true then ((sennitref07_Few.f k (([(⟨a0_0, l0_1, l0_2, l0_3⟩ : S27)] : List (S27)))).bind fun t369 => (sennitlaw10_ZealTells.j0 k l1 t364 (!t369) a0_0 l0_1 l0_2 l0_3)) else (sennitlaw10_ZealTells.j0 k l1 t364 true a0_0 l0_1 l0_2 l0_3)) = some r := H
    have A7 := am A70
    clear A70
    by_cases c8 : t365 = true
    · subst c8
      have H1 : ((sennitref07_Few.f k (([(⟨a0_0, l0_1, l0_2, l0_3⟩ : S27)] : List (S27)))).bind fun t369 => (sennitlaw10_ZealTells.j0 k l1 t364 (!t369) a0_0 l0_1 l0_2 l0_3)) = some r := by rw [if_pos rfl] at H; exact H
      clear H
      have H := H1
      clear H1
      obtain ⟨y366, hy366⟩ : ∃ y_ : List (S27), y_ = (([(⟨a0_0, l0_1, l0_2, l0_3⟩ : S27)] : List (S27))) := ⟨_, rfl⟩
      replace H : ((sennitref07_Few.f k y366).bind fun t369 => (sennitlaw10_ZealTells.j0 k l1 t364 (!t369) a0_0 l0_1 l0_2 l0_3)) = some r := by first | (rw [hy366]; with_reducible exact H) | (have H2_ := (Option.bind_some _ _).symm.trans H; rw [hy366]; with_reducible exact H2_) | (have H2_ := (Option.bind_some _ _).symm.trans H; with_reducible exact H2_) | with_reducible exact H | (rw [hy366]; exact H) | exact H
      have Ny366 := am hy366
      clear hy366
      replace H := Option.bind_eq_some_iff.mp H
      obtain ⟨t369, A90, H⟩ := H
      replace H : (sennitlaw10_ZealTells.j0 k l1 t364 (!t369) a0_0 l0_1 l0_2 l0_3) = some r := H
      have A9 := am A90
      clear A90
      have H' := am H
      clear H
      go_wp2_with (first | ((with_reducible refine gate_callee (f := 32) rfl ?_); refine goesL_ (some 8) rfl rfl Try.func32 (by kernel_rfl) rfl #[.slice A1 l1.length c1] rfl (by (try simp only [List.map_toArray, List.map_cons, List.map_nil]); first | done | rfl | (simp only [List.length_drop, List.length_take]; rfl)) ?_; (with_reducible refine (sennitref07_Few.calls k _ _ l1 true _ ?side1 ?side2 A7.out).mono ?_); (case side1 => repeat (first | exact (Kd.V_reads' HO1.out).2.2 | (with_reducible refine Kd.C_alloc ?_ _) | (with_reducible refine Kd.C_drewN ?_ _) | (with_reducible refine Kd.C_drew ?_))); (case side2 => exact (Kd.V_reads' HO1.out).2.1); rintro e w' ⟨rfl, ⟨nd, rfl⟩⟩; refine ⟨_, rfl, ?_⟩; have hcz10_0 : w6.cell? ⟨gb363, 0, none⟩ = some (.bool a0_0) := (blk_cell BK363.out 0).trans rfl; have hcz10_1 : w6.cell? ⟨gb363, 1, none⟩ = some (.slice A0_1 l0_1.length c0_1) := (blk_cell BK363.out 1).trans rfl; have hcz10_2 : w6.cell? ⟨gb363, 2, none⟩ = some (.slice A0_2 l0_2.length c0_2) := (blk_cell BK363.out 2).trans rfl; have hcz10_3 : w6.cell? ⟨gb363, 3, none⟩ = some (.slice A0_3 l0_3.length c0_3) := (blk_cell BK363.out 3).trans rfl; have hfz10_0 := blk_frozen BK363.out 0; have hfz10_1 := blk_frozen BK363.out 1; have hfz10_2 := blk_frozen BK363.out 2; have hfz10_3 := blk_frozen BK363.out 3) | ((with_reducible refine gate_dst (N := 12) rfl ?_); (try (refine gate_guard (by rfl) ?_; dsimp only)); refine Kd.N_lit k27 _ 27 ?hg (N' := 12) ?hd (xs := ([(⟨a0_0, l0_1, l0_2, l0_3⟩ : S27)] : List (S27))) (inner := [.bool a0_0, .slice A0_1 l0_1.length c0_1, .slice A0_2 l0_2.length c0_2, .slice A0_3 l0_3.length c0_3]) (ok := (fun k_ => ((P0_1_ k_ ∨ P0_2_ k_ ∨ P0_3_ k_ ∨ P1_ k_) ∨ w.heap.size ≤ k_) ∧ k_ ≠ gb363)) (okp := (fun k_ => ((P0_1_ k_ ∨ P0_2_ k_ ∨ P0_3_ k_ ∨ P1_ k_) ∨ w.heap.size ≤ k_) ∧ k_ ≠ gb363)) ?hr ?hp (fun _ hk => hk) ((show ∀ k_, w6.heap.size ≤ k_ → (fun k_ => ((P0_1_ k_ ∨ P0_2_ k_ ∨ P0_3_ k_ ∨ P1_ k_) ∨ w.heap.size ≤ k_) ∧ k_ ≠ gb363) k_ from fun k_ hk => ⟨(.inr (Nat.le_trans (below_size (by repeat (first | (with_reducible first | exact HB.out | apply below_alloc | apply pw_below_drewN | apply below_drew1 | refine below_set ?_ GE363.out) | exact HB.out))) hk)), Kd.freshB (g := gb363) (o := .cells #[.bool a0_0, .slice A0_1 l0_1.length c0_1, .slice A0_2 l0_2.length c0_2, .slice A0_3 l0_3.length c0_3] 27 (0, 0)) (by (with_reducible repeat (first | refine blk_drewN ?_ _ | refine blk_drew ?_ | refine blk_alloc ?_ _)); exact BK363.out) k_ hk⟩) _ (Nat.le_refl _)) (Below.refl _ _) (Nat.le_refl _) (by simp) ?_; (case hd => rfl); (case hg => rfl); (case hr => first | (go_simp; done) | (go_simp; rfl)); (case hp => exact (Reps.c4 (show Kd.FK k27 _ _ (⟨a0_0, l0_1, l0_2, l0_3⟩ : S27) [.bool a0_0, .slice A0_1 l0_1.length c0_1, .slice A0_2 l0_2.length c0_2, .slice A0_3 l0_3.length c0_3] from (k27_mkF _ _ (⟨a0_0, l0_1, l0_2, l0_3⟩ : S27) (Kd.V_reads' (Kd.V_mono (ok' := (fun k_ => ((P0_1_ k_ ∨ P0_2_ k_ ∨ P0_3_ k_ ∨ P1_ k_) ∨ w.heap.size ≤ k_) ∧ k_ ≠ gb363)) (HO0_1.out) (fun k_ hk => ⟨hk.1, hk.2⟩))).2.1 (Kd.V_F (Kd.V_mono (ok' := (fun k_ => ((P0_1_ k_ ∨ P0_2_ k_ ∨ P0_3_ k_ ∨ P1_ k_) ∨ w.heap.size ≤ k_) ∧ k_ ≠ gb363)) (HO0_1.out) (fun k_ hk => ⟨hk.1, hk.2⟩))) (Kd.V_reads' (Kd.V_mono (ok' := (fun k_ => ((P0_1_ k_ ∨ P0_2_ k_ ∨ P0_3_ k_ ∨ P1_ k_) ∨ w.heap.size ≤ k_) ∧ k_ ≠ gb363)) (HO0_2.out) (fun k_ hk => ⟨hk.1, hk.2⟩))).2.1 (Kd.V_F (Kd.V_mono (ok' := (fun k_ => ((P0_1_ k_ ∨ P0_2_ k_ ∨ P0_3_ k_ ∨ P1_ k_) ∨ w.heap.size ≤ k_) ∧ k_ ≠ gb363)) (HO0_2.out) (fun k_ hk => ⟨hk.1, hk.2⟩))) (Kd.V_reads' (Kd.V_mono (ok' := (fun k_ => ((P0_1_ k_ ∨ P0_2_ k_ ∨ P0_3_ k_ ∨ P1_ k_) ∨ w.heap.size ≤ k_) ∧ k_ ≠ gb363)) (HO0_3.out) (fun k_ hk => ⟨hk.1, hk.2⟩))).2.1 (Kd.V_F (Kd.V_mono (ok' := (fun k_ => ((P0_1_ k_ ∨ P0_2_ k_ ∨ P0_3_ k_ ∨ P1_ k_) ∨ w.heap.size ≤ k_) ∧ k_ ≠ gb363)) (HO0_3.out) (fun k_ hk => ⟨hk.1, hk.2⟩))))) (Reps.none _ _))); intro v367 w11 ho12 hb hg_ hnew_; clear hg_ hnew_; (first | rw [← Ny366.out] at ho12 | (simp only [Int.reduceToNat] at ho12; rw [← Ny366.out] at ho12)); have n0_ := am (Kd.V_elder' (by (with_reducible repeat (first | apply vA | apply vN | apply vD)); exact HO0_1.out) (Kd.N_base ho12) hb); have n1_ := am (Kd.V_elder' (by (with_reducible repeat (first | apply vA | apply vN | apply vD)); exact HO0_2.out) (Kd.N_base ho12) hb); have n2_ := am (Kd.V_elder' (by (with_reducible repeat (first | apply vA | apply vN | apply vD)); exact HO0_3.out) (Kd.N_base ho12) hb); have n3_ := am (Kd.V_elder' (by (with_reducible repeat (first | apply vA | apply vN | apply vD)); exact HO1.out) (Kd.N_base ho12) hb); have n4_ := am (Kd.N_lower ho12 (below_size (by repeat (first | (with_reducible first | exact HB.out | apply below_alloc | apply pw_below_drewN | apply below_drew1 | refine below_set ?_ GE363.out) | exact HB.out)))); have n5_ := am (blk_below (g := gb363) (o := .cells #[.bool a0_0, .slice A0_1 l0_1.length c0_1, .slice A0_2 l0_2.length c0_2, .slice A0_3 l0_3.length c0_3] 27 (0, 0)) (by (with_reducible repeat (first | refine blk_drewN ?_ _ | refine blk_drew ?_ | refine blk_alloc ?_ _)); exact BK363.out) hb); have n6_ := am (below_step (by repeat (first | (with_reducible first | exact HB.out | apply below_alloc | apply pw_below_drewN | apply below_drew1 | refine below_set ?_ GE363.out) | exact HB.out)) hb); clear HO0_1; clear HO0_2; clear HO0_3; clear HO1; clear BK363; clear HB; have HO0_1 := n0_; have HO0_2 := n1_; have HO0_3 := n2_; have HO1 := n3_; have HO368 := n4_; have BK363 := n5_; have HB := n6_; clear n0_ n1_ n2_ n3_ n4_ n5_ n6_; clear hb ho12; obtain ⟨Ao13, co13, eo13⟩ := Kd.N_slice HO368.out; subst eo13) | (go_at_call 32; (with_reducible refine (sennitref07_Few.calls k _ _ y366 t369 _ ?side1 ?side2 A9.out).mono ?_); (case side1 => repeat (first | exact (Kd.N_reads' HO368.out).2.2 | (with_reducible refine Kd.C_alloc ?_ _) | (with_reducible refine Kd.C_drewN ?_ _) | (with_reducible refine Kd.C_drew ?_))); (case side2 => exact (Kd.N_reads' HO368.out).2.1); rintro e w' ⟨rfl, ⟨nd, rfl⟩⟩))
      go_meet
      case rel => exact ⟨_, (!t369), (by first | rfl | (simp; done) | (simp [*]; done)), H', ⟨by first | omega | exact Nat.le_refl _⟩, ⟨by (with_reducible repeat (first | apply vA | apply vN | apply vD)); exact Kd.V_mono HO1.out (fun _ hk => ⟨hk.1.1, hk.1.2⟩)⟩, ⟨by (with_reducible repeat (first | apply vA | apply vN | apply vD)); exact Kd.V_mono HO0_1.out (fun _ hk => ⟨hk.1.1, hk.1.2⟩)⟩, ⟨by (with_reducible repeat (first | apply vA | apply vN | apply vD)); exact Kd.V_mono HO0_2.out (fun _ hk => ⟨hk.1.1, hk.1.2⟩)⟩, ⟨by (with_reducible repeat (first | apply vA | apply vN | apply vD)); exact Kd.V_mono HO0_3.out (fun _ hk => ⟨hk.1.1, hk.1.2⟩)⟩, ⟨by (with_reducible repeat (first | refine blk_drewN ?_ _ | refine blk_drew ?_ | refine blk_alloc ?_ _)); exact BK363.out⟩, ⟨by repeat (first | (with_reducible first | exact HB.out | apply below_alloc | apply pw_below_drewN | apply below_drew1 | refine below_set ?_ GE363.out) | exact HB.out)⟩⟩
    · replace c8 := Bool.eq_false_iff.mpr c8
      subst c8
      have H1 : (sennitlaw10_ZealTells.j0 k l1 t364 true a0_0 l0_1 l0_2 l0_3) = some r := by rw [if_neg (show ¬ (false = true) by decide)] at H; exact H
      clear H
      have H := H1
      clear H1
      have H' := am H
      clear H
      go_wp2_with (first | ((with_reducible refine gate_callee (f := 32) rfl ?_); refine goesL_ (some 8) rfl rfl Try.func32 (by kernel_rfl) rfl #[.slice A1 l1.length c1] rfl (by (try simp only [List.map_toArray, List.map_cons, List.map_nil]); first | done | rfl | (simp only [List.length_drop, List.length_take]; rfl)) ?_; (with_reducible refine (sennitref07_Few.calls k _ _ l1 false _ ?side1 ?side2 A7.out).mono ?_); (case side1 => repeat (first | exact (Kd.V_reads' HO1.out).2.2 | (with_reducible refine Kd.C_alloc ?_ _) | (with_reducible refine Kd.C_drewN ?_ _) | (with_reducible refine Kd.C_drew ?_))); (case side2 => exact (Kd.V_reads' HO1.out).2.1); rintro e w' ⟨rfl, ⟨nd, rfl⟩⟩; refine ⟨_, rfl, ?_⟩))
      go_meet
      case rel => exact ⟨_, (true), (by first | rfl | (simp; done) | (simp [*]; done)), H', ⟨by first | omega | exact Nat.le_refl _⟩, ⟨by (with_reducible repeat (first | apply vA | apply vN | apply vD)); exact HO1.out⟩, ⟨by (with_reducible repeat (first | apply vA | apply vN | apply vD)); exact HO0_1.out⟩, ⟨by (with_reducible repeat (first | apply vA | apply vN | apply vD)); exact HO0_2.out⟩, ⟨by (with_reducible repeat (first | apply vA | apply vN | apply vD)); exact HO0_3.out⟩, ⟨by (with_reducible repeat (first | refine blk_drewN ?_ _ | refine blk_drew ?_ | refine blk_alloc ?_ _)); exact BK363.out⟩, ⟨by repeat (first | (with_reducible first | exact HB.out | apply below_alloc | apply pw_below_drewN | apply below_drew1 | refine below_set ?_ GE363.out) | exact HB.out)⟩⟩
  case rest =>
    clear HC4
    try clear c1
    try clear p2
    try clear c3
    try clear c4
    try clear c8
    try clear c10
    try clear hcz10_0
    try clear hcz10_1
    try clear hcz10_2
    try clear hcz10_3
    try clear hfz10_0
    try clear hfz10_1
    try clear hfz10_2
    try clear hfz10_3
    obtain ⟨kq, x15_3, rfl, HA, HJ3, HO_1, HO_364001, HO_364002, HO_364003, BK363, HB⟩ := hcut
    cases kq with
    | zero => exact absurd HA.out (by simp [sennitlaw10_ZealTells.j0])
    | succ kj3 =>
      have H := HA.out
      clear HA
      simp only [sennitlaw10_ZealTells.j0] at H
      by_cases c14 : x15_3 = true
      · subst c14
        have H1 : (some t364) = some r := by rw [if_pos rfl] at H; exact H
        clear H
        have H := H1
        clear H1
        obtain rfl := Option.some.inj H
        go_wp2
        go_ret
        exact ⟨by first | rfl | (simp [errW_none, errW_some] <;> rfl) | (simp [*, errW_none, errW_some] <;> rfl), by repeat (first | (with_reducible first | exact HB.out | apply below_alloc | apply pw_below_drewN | apply below_drew1 | refine below_set ?_ GE363.out) | exact HB.out)⟩
      · replace c14 := Bool.eq_false_iff.mpr c14
        subst c14
        have H1 : (if t364 = true then ((zeal_Trim.f kj3 a0_0 l0_1 l0_2 l0_3).bind fun t370 => ((sennitref10_Trim.f kj3 a0_0 l0_1 l0_2 l0_3).bind fun t373 => ((sennitref07_Same.f kj3 t370 t373).bind fun t376 => (if t376 = true then ((zeal_Zeal.f kj3 l1).bind fun t377 => ((sennitref10_Zeal.f kj3 l1).bind fun t380 => ((sennitref07_Same.f kj3 t377 t380).bind fun t383 => (some t383)))) else (none))))) else (none)) = some r := by rw [if_neg (show ¬ (false = true) by decide)] at H; exact H
        clear H
        have H := H1
        clear H1
        by_cases c15 : t364 = true
        · subst c15
          have H1 : ((zeal_Trim.f kj3 a0_0 l0_1 l0_2 l0_3).bind fun t370 => ((sennitref10_Trim.f kj3 a0_0 l0_1 l0_2 l0_3).bind fun t373 => ((sennitref07_Same.f kj3 t370 t373).bind fun t376 => (if t376 = true then ((zeal_Zeal.f kj3 l1).bind fun t377 => ((sennitref10_Zeal.f kj3 l1).bind fun t380 => ((sennitref07_Same.f kj3 t377 t380).bind fun t383 => (some t383)))) else (none))))) = some r := by rw [if_pos rfl] at H; exact H
          clear H
          have H := H1
          clear H1
          replace H := Option.bind_eq_some_iff.mp H
          obtain ⟨t370, A160, H⟩ := H
          replace H : ((sennitref10_Trim.f kj3 a0_0 l0_1 l0_2 l0_3).bind fun t373 => ((sennitref07_Same.f kj3 t370 t373).bind fun t376 => (if t376 = true then ((zeal_Zeal.f kj3 l1).bind fun t377 => ((sennitref10_Zeal.f kj3 l1).bind fun t380 => ((sennitref07_Same.f kj3 t377 t380).bind fun t383 => (some t383)))) else (none)))) = some r := H
          have A16 := am A160
          clear A160
          replace H := Option.bind_eq_some_iff.mp H
          obtain ⟨t373, A170, H⟩ := H
          replace H : ((sennitref07_Same.f kj3 t370 t373).bind fun t376 => (if t376 = true then ((zeal_Zeal.f kj3 l1).bind fun t377 => ((sennitref10_Zeal.f kj3 l1).bind fun t380 => ((sennitref07_Same.f kj3 t377 t380).bind fun t383 => (some t383)))) else (none))) = some r := H
          have A17 := am A170
          clear A170
          replace H := Option.bind_eq_some_iff.mp H
          obtain ⟨t376, A180, H⟩ := H
          replace H : (if t376 = true then ((zeal_Zeal.f kj3 l1).bind fun t377 => ((sennitref10_Zeal.f kj3 l1).bind fun t380 => ((sennitref07_Same.f kj3 t377 t380).bind fun t383 => (some t383)))) else (none)) = some r := H
          have A18 := am A180
          clear A180
          by_cases c19 : t376 = true
          · subst c19
            have H1 : ((zeal_Zeal.f kj3 l1).bind fun t377 => ((sennitref10_Zeal.f kj3 l1).bind fun t380 => ((sennitref07_Same.f kj3 t377 t380).bind fun t383 => (some t383)))) = some r := by rw [if_pos rfl] at H; exact H
            clear H
            have H := H1
            clear H1
            replace H := Option.bind_eq_some_iff.mp H
            obtain ⟨t377, A200, H⟩ := H
            replace H : ((sennitref10_Zeal.f kj3 l1).bind fun t380 => ((sennitref07_Same.f kj3 t377 t380).bind fun t383 => (some t383))) = some r := H
            have A20 := am A200
            clear A200
            replace H := Option.bind_eq_some_iff.mp H
            obtain ⟨t380, A210, H⟩ := H
            replace H : ((sennitref07_Same.f kj3 t377 t380).bind fun t383 => (some t383)) = some r := H
            have A21 := am A210
            clear A210
            replace H := Option.bind_eq_some_iff.mp H
            obtain ⟨t383, A220, H⟩ := H
            replace H : (some t383) = some r := H
            have A22 := am A220
            clear A220
            obtain rfl := Option.some.inj H
            try go_wp2
            have n0_ := am (Kd.V_drew HO_1.out)
            have n1_ := am (Kd.V_drew HO_364001.out)
            have n2_ := am (Kd.V_drew HO_364002.out)
            have n3_ := am (Kd.V_drew HO_364003.out)
            have n4_ := am (blk_drew BK363.out)
            have n5_ := am (below_drew1 HB.out)
            clear HO_1
            clear HO_364001
            clear HO_364002
            clear HO_364003
            clear BK363
            clear HB
            have HO_1 := n0_
            have HO_364001 := n1_
            have HO_364002 := n2_
            have HO_364003 := n3_
            have BK363 := n4_
            have HB := n5_
            clear n0_ n1_ n2_ n3_ n4_ n5_
            refine start_ (n := 16) (S := fun w' => w'.cell? ⟨gb363, 0, none⟩ = some (.bool a0_0) ∧ w'.cell? ⟨gb363, 1, none⟩ = some (.slice A0_1 l0_1.length c0_1) ∧ w'.cell? ⟨gb363, 2, none⟩ = some (.slice A0_2 l0_2.length c0_2) ∧ w'.cell? ⟨gb363, 3, none⟩ = some (.slice A0_3 l0_3.length c0_3)) (ds := []) #[false, false, false, false, false, false, false, false, false, false, false, false, false, false, false, false] (by kernel_rfl) rfl rfl ⟨(blk_cell BK363.out 0).trans rfl, (blk_cell BK363.out 1).trans rfl, (blk_cell BK363.out 2).trans rfl, (blk_cell BK363.out 3).trans rfl⟩ (fun hHeld => ?_); refine with_tabW sennitlaw10_ZealTells.tab4 sennitlaw10_ZealTells.bits4 (fun HT_ HW_ => ?_)
            generalize wc.drew = w23 at HO_1 HO_364001 HO_364002 HO_364003 BK363 HB hHeld ⊢
            refine pure_ (i := 0) (N := some 17) (v := ?_) (a' := ?_) #[true, false, false, false, false, false, false, false, false, false, false, false, false, false, false, false] rfl rfl (any_of HT_.out (by kernel_rfl)) (fun _ _ _ h => h) (Or.inl ⟨by rfl, ?_⟩) ?_ ?_
            rotate_left
            · intro w'
              go_simp
              with_reducible rfl
            rotate_left
            · simp only [Act.put, List.setIfInBounds_toArray, List.set_cons_zero, List.set_cons_succ, i64_w, i32_w]
              rfl
            refine pure_ (i := 1) (N := some 18) (v := ?_) (a' := ?_) #[true, true, false, false, false, false, false, false, false, false, false, false, false, false, false, false] rfl rfl (any_of HT_.out (by kernel_rfl)) (fun _ _ _ h => h) (Or.inl ⟨by rfl, ?_⟩) ?_ ?_
            rotate_left
            · intro w'
              go_simp
              with_reducible rfl
            rotate_left
            · simp only [Act.put, List.setIfInBounds_toArray, List.set_cons_zero, List.set_cons_succ, i64_w, i32_w]
              rfl
            refine take_ (i := 2) (N := some 19) (v := ?_) (a' := ?_) #[true, true, true, false, false, false, false, false, false, false, false, false, false, false, false, false] rfl rfl (take_ofW HT_.out HW_.out (by kernel_rfl)) (fun _ _ _ h => h) (Or.inl ⟨by rfl, ?_⟩) hHeld ?_ ?_
            rotate_left
            · rintro w' ⟨s0, s1, s2, s3⟩
              go_simp
              with_reducible rfl
            rotate_left
            · simp only [Act.put, List.setIfInBounds_toArray, List.set_cons_zero, List.set_cons_succ, i64_w, i32_w]
              rfl
            refine take_ (i := 4) (N := some 21) (v := ?_) (a' := ?_) #[true, true, true, false, true, false, false, false, false, false, false, false, false, false, false, false] rfl rfl (take_ofW HT_.out HW_.out (by kernel_rfl)) (fun _ _ _ h => h) (Or.inl ⟨by rfl, ?_⟩) hHeld ?_ ?_
            rotate_left
            · rintro w' ⟨s0, s1, s2, s3⟩
              go_simp
              with_reducible rfl
            rotate_left
            · simp only [Act.put, List.setIfInBounds_toArray, List.set_cons_zero, List.set_cons_succ, i64_w, i32_w]
              rfl
            refine one_ (i := 3) (N := some 20) #[true, true, true, true, true, false, false, false, false, false, false, false, false, false, false, false] rfl rfl (one_of HT_.out (by kernel_rfl)) (by decide) (fun K hK => ?_)
            refine goes_ Try.func36 (by kernel_rfl) rfl #[.agg #[.bool a0_0, .slice A0_1 l0_1.length c0_1, .slice A0_2 l0_2.length c0_2, .slice A0_3 l0_3.length c0_3]] (by rfl) rfl rfl (by (try simp only [List.map_toArray, List.map_cons, List.map_nil]); first | done | rfl | (simp only [List.length_drop, List.length_take]; rfl)) ?_
            with_reducible refine (zeal_Trim.calls kj3 a0_0 (fun k_ => (((P0_1_ k_ ∨ P0_2_ k_ ∨ P0_3_ k_ ∨ P1_ k_) ∨ w.heap.size ≤ k_) ∧ k_ ≠ gb363)) _ _ l0_1 (fun k_ => (((P0_1_ k_ ∨ P0_2_ k_ ∨ P0_3_ k_ ∨ P1_ k_) ∨ w.heap.size ≤ k_) ∧ k_ ≠ gb363)) _ _ l0_2 (fun k_ => (((P0_1_ k_ ∨ P0_2_ k_ ∨ P0_3_ k_ ∨ P1_ k_) ∨ w.heap.size ≤ k_) ∧ k_ ≠ gb363)) _ _ l0_3 t370 _ ?side1 ?side2 ?side3 A16.out).mono ?_
            (case side1 => exact HO_364001.out)
            (case side2 => exact HO_364002.out)
            (case side3 => exact HO_364003.out)
            rintro e w24 ⟨v371, rfl, ho0, hb⟩
            refine ⟨_, rfl, ?_⟩
            have n0_ := am (Kd.V_elder' (by (with_reducible repeat (first | apply vA | apply vN | apply vD)); exact HO_1.out) (Kd.N_base ho0) hb)
            have n1_ := am (Kd.V_elder' (by (with_reducible repeat (first | apply vA | apply vN | apply vD)); exact HO_364001.out) (Kd.N_base ho0) hb)
            have n2_ := am (Kd.V_elder' (by (with_reducible repeat (first | apply vA | apply vN | apply vD)); exact HO_364002.out) (Kd.N_base ho0) hb)
            have n3_ := am (Kd.V_elder' (by (with_reducible repeat (first | apply vA | apply vN | apply vD)); exact HO_364003.out) (Kd.N_base ho0) hb)
            have n4_ := am (Kd.N_lower (Kd.N_mono (ok' := fun k_ => ((P0_1_ k_ ∨ P0_2_ k_ ∨ P0_3_ k_ ∨ P1_ k_) ∨ w.heap.size ≤ k_) ∧ k_ ≠ gb363) ho0 (fun k_ hk_ => ⟨Or.elim hk_ (fun hs_ => Or.elim hs_ (fun hs_ => hs_.1) (fun hs_ => Or.elim hs_ (fun hs_ => hs_.1) (fun hs_ => hs_.1))) (fun hn_ => (.inr (Nat.le_trans (below_size (by repeat (first | (with_reducible first | exact HB.out | apply below_alloc | apply pw_below_drewN | apply below_drew1 | refine below_set ?_ GE363.out) | exact HB.out))) hn_))), Or.elim hk_ (fun hs_ => Or.elim hs_ (fun hs_ => hs_.2) (fun hs_ => Or.elim hs_ (fun hs_ => hs_.2) (fun hs_ => hs_.2))) (fun hn_ => (Kd.freshB (g := gb363) (o := .cells #[.bool a0_0, .slice A0_1 l0_1.length c0_1, .slice A0_2 l0_2.length c0_2, .slice A0_3 l0_3.length c0_3] 27 (0, 0)) (by (with_reducible repeat (first | refine blk_drewN ?_ _ | refine blk_drew ?_ | refine blk_alloc ?_ _)); exact BK363.out) k_ hn_))⟩)) (below_size (by repeat (first | (with_reducible first | exact HB.out | apply below_alloc | apply pw_below_drewN | apply below_drew1 | refine below_set ?_ GE363.out) | exact HB.out))))
            have n5_ := am (blk_below (g := gb363) (o := .cells #[.bool a0_0, .slice A0_1 l0_1.length c0_1, .slice A0_2 l0_2.length c0_2, .slice A0_3 l0_3.length c0_3] 27 (0, 0)) (by (with_reducible repeat (first | refine blk_drewN ?_ _ | refine blk_drew ?_ | refine blk_alloc ?_ _)); exact BK363.out) hb)
            have n6_ := am (below_step (by repeat (first | (with_reducible first | exact HB.out | apply below_alloc | apply pw_below_drewN | apply below_drew1 | refine below_set ?_ GE363.out) | exact HB.out)) hb)
            clear HO_1
            clear HO_364001
            clear HO_364002
            clear HO_364003
            clear BK363
            clear HB
            have HO_1 := n0_
            have HO_364001 := n1_
            have HO_364002 := n2_
            have HO_364003 := n3_
            have HO372 := n4_
            have BK363 := n5_
            have HB := n6_
            clear n0_ n1_ n2_ n3_ n4_ n5_ n6_
            (try clear hb)
            (try clear hb2)
            (try clear hk)
            (try clear hi)
            (try clear ho0)
            refine hK.out _ _ ⟨(blk_cell BK363.out 0).trans rfl, (blk_cell BK363.out 1).trans rfl, (blk_cell BK363.out 2).trans rfl, (blk_cell BK363.out 3).trans rfl⟩ (fun hHeld => ?_)
            clear hK K
            refine norm_ (a' := ?_) ?_ ?_
            rotate_left
            · show Act.put _ (some 20) _ = _
              simp only [Act.put, List.setIfInBounds_toArray, List.set_cons_zero, List.set_cons_succ, i64_w, i32_w]
              rfl
            refine one_ (i := 5) (N := some 22) #[true, true, true, true, true, true, false, false, false, false, false, false, false, false, false, false] rfl rfl (one_of HT_.out (by kernel_rfl)) (by decide) (fun K hK => ?_)
            refine goes_ Try.func37 (by kernel_rfl) rfl #[.agg #[.bool a0_0, .slice A0_1 l0_1.length c0_1, .slice A0_2 l0_2.length c0_2, .slice A0_3 l0_3.length c0_3]] (by rfl) rfl rfl (by (try simp only [List.map_toArray, List.map_cons, List.map_nil]); first | done | rfl | (simp only [List.length_drop, List.length_take]; rfl)) ?_
            with_reducible refine (sennitref10_Trim.calls kj3 a0_0 (fun k_ => ((((P0_1_ k_ ∨ P0_2_ k_ ∨ P0_3_ k_ ∨ P1_ k_) ∨ w.heap.size ≤ k_) ∧ k_ ≠ gb363) ∧ some k_ ≠ (v371 : Value).ownBlock)) _ _ l0_1 (fun k_ => ((((P0_1_ k_ ∨ P0_2_ k_ ∨ P0_3_ k_ ∨ P1_ k_) ∨ w.heap.size ≤ k_) ∧ k_ ≠ gb363) ∧ some k_ ≠ (v371 : Value).ownBlock)) _ _ l0_2 (fun k_ => ((((P0_1_ k_ ∨ P0_2_ k_ ∨ P0_3_ k_ ∨ P1_ k_) ∨ w.heap.size ≤ k_) ∧ k_ ≠ gb363) ∧ some k_ ≠ (v371 : Value).ownBlock)) _ _ l0_3 t373 _ ?side1 ?side2 ?side3 A17.out).mono ?_
            (case side1 => exact HO_364001.out)
            (case side2 => exact HO_364002.out)
            (case side3 => exact HO_364003.out)
            rintro e w25 ⟨v374, rfl, ho0, hb⟩
            refine ⟨_, rfl, ?_⟩
            have n0_ := am (Kd.V_elder' (by (with_reducible repeat (first | apply vA | apply vN | apply vD)); exact HO_1.out) (Kd.N_base ho0) hb)
            have n1_ := am (Kd.V_elder' (by (with_reducible repeat (first | apply vA | apply vN | apply vD)); exact HO_364001.out) (Kd.N_base ho0) hb)
            have n2_ := am (Kd.V_elder' (by (with_reducible repeat (first | apply vA | apply vN | apply vD)); exact HO_364002.out) (Kd.N_base ho0) hb)
            have n3_ := am (Kd.V_elder' (by (with_reducible repeat (first | apply vA | apply vN | apply vD)); exact HO_364003.out) (Kd.N_base ho0) hb)
            have n4_ := am (Kd.N_elder' (by (with_reducible repeat (first | apply nA | apply nN | apply nD)); exact HO372.out) (Kd.N_base ho0) hb)
            have n5_ := am (Kd.N_lower (Kd.N_mono (ok' := fun k_ => ((P0_1_ k_ ∨ P0_2_ k_ ∨ P0_3_ k_ ∨ P1_ k_) ∨ w.heap.size ≤ k_) ∧ some k_ ≠ (v371 : Value).ownBlock ∧ k_ ≠ gb363) ho0 (fun k_ hk_ => ⟨Or.elim hk_ (fun hs_ => Or.elim hs_ (fun hs_ => hs_.1.1) (fun hs_ => Or.elim hs_ (fun hs_ => hs_.1.1) (fun hs_ => hs_.1.1))) (fun hn_ => (.inr (Nat.le_trans (below_size (by repeat (first | (with_reducible first | exact HB.out | apply below_alloc | apply pw_below_drewN | apply below_drew1 | refine below_set ?_ GE363.out) | exact HB.out))) hn_))), Or.elim hk_ (fun hs_ => Or.elim hs_ (fun hs_ => hs_.2) (fun hs_ => Or.elim hs_ (fun hs_ => hs_.2) (fun hs_ => hs_.2))) (fun hn_ => (Kd.fresh' (Kd.N_lt (by (with_reducible repeat (first | apply nA | apply nN | apply nD)); exact HO372.out)) k_ hn_)), Or.elim hk_ (fun hs_ => Or.elim hs_ (fun hs_ => hs_.1.2) (fun hs_ => Or.elim hs_ (fun hs_ => hs_.1.2) (fun hs_ => hs_.1.2))) (fun hn_ => (Kd.freshB (g := gb363) (o := .cells #[.bool a0_0, .slice A0_1 l0_1.length c0_1, .slice A0_2 l0_2.length c0_2, .slice A0_3 l0_3.length c0_3] 27 (0, 0)) (by (with_reducible repeat (first | refine blk_drewN ?_ _ | refine blk_drew ?_ | refine blk_alloc ?_ _)); exact BK363.out) k_ hn_))⟩)) (below_size (by repeat (first | (with_reducible first | exact HB.out | apply below_alloc | apply pw_below_drewN | apply below_drew1 | refine below_set ?_ GE363.out) | exact HB.out))))
            have n6_ := am (blk_below (g := gb363) (o := .cells #[.bool a0_0, .slice A0_1 l0_1.length c0_1, .slice A0_2 l0_2.length c0_2, .slice A0_3 l0_3.length c0_3] 27 (0, 0)) (by (with_reducible repeat (first | refine blk_drewN ?_ _ | refine blk_drew ?_ | refine blk_alloc ?_ _)); exact BK363.out) hb)
            have n7_ := am (below_step (by repeat (first | (with_reducible first | exact HB.out | apply below_alloc | apply pw_below_drewN | apply below_drew1 | refine below_set ?_ GE363.out) | exact HB.out)) hb)
            clear HO_1
            clear HO_364001
            clear HO_364002
            clear HO_364003
            clear HO372
            clear BK363
            clear HB
            have HO_1 := n0_
            have HO_364001 := n1_
            have HO_364002 := n2_
            have HO_364003 := n3_
            have HO372 := n4_
            have HO375 := n5_
            have BK363 := n6_
            have HB := n7_
            clear n0_ n1_ n2_ n3_ n4_ n5_ n6_ n7_
            (try clear hb)
            (try clear hb2)
            (try clear hk)
            (try clear hi)
            (try clear ho0)
            obtain ⟨Ao26, co26, eo26⟩ := Kd.N_slice HO372.out
            (first | subst eo26 | (injection eo26 with f1_ f2_ f3_; have f4_ := f1_.symm; have f5_ := f3_.symm; clear f1_ f2_ f3_; subst f4_; subst f5_))
            obtain ⟨Ao27, co27, eo27⟩ := Kd.N_slice HO375.out
            (first | subst eo27 | (injection eo27 with f1_ f2_ f3_; have f4_ := f1_.symm; have f5_ := f3_.symm; clear f1_ f2_ f3_; subst f4_; subst f5_))
            refine hK.out _ _ ⟨(blk_cell BK363.out 0).trans rfl, (blk_cell BK363.out 1).trans rfl, (blk_cell BK363.out 2).trans rfl, (blk_cell BK363.out 3).trans rfl⟩ (fun hHeld => ?_)
            clear hK K
            refine norm_ (a' := ?_) ?_ ?_
            rotate_left
            · show Act.put _ (some 22) _ = _
              simp only [Act.put, List.setIfInBounds_toArray, List.set_cons_zero, List.set_cons_succ, i64_w, i32_w]
              rfl
            refine one_ (i := 6) (N := some 23) #[true, true, true, true, true, true, true, false, false, false, false, false, false, false, false, false] rfl rfl (one_of HT_.out (by kernel_rfl)) (by decide) (fun K hK => ?_)
            refine goes_ Try.func34 (by kernel_rfl) rfl #[.slice Ao26 t370.length co26, .slice Ao27 t373.length co27] (by rfl) rfl rfl (by (try simp only [List.map_toArray, List.map_cons, List.map_nil]); first | done | rfl | (simp only [List.length_drop, List.length_take]; rfl)) ?_
            with_reducible refine (sennitref07_Same.calls kj3 _ _ t370 _ _ t373 true _ ?side1 ?side2 ?side3 ?side4 A18.out).mono ?_
            (case side1 => repeat (first | exact (Kd.N_reads' HO372.out).2.2 | (with_reducible refine Kd.C_alloc ?_ _) | (with_reducible refine Kd.C_drewN ?_ _) | (with_reducible refine Kd.C_drew ?_)))
            (case side2 => exact (Kd.N_reads' HO372.out).2.1)
            (case side3 => repeat (first | exact (Kd.N_reads' HO375.out).2.2 | (with_reducible refine Kd.C_alloc ?_ _) | (with_reducible refine Kd.C_drewN ?_ _) | (with_reducible refine Kd.C_drew ?_)))
            (case side4 => exact (Kd.N_reads' HO375.out).2.1)
            rintro e w' ⟨rfl, ⟨nd, rfl⟩⟩
            refine ⟨_, rfl, ?_⟩
            refine hK.out _ _ ⟨(blk_cell BK363.out 0).trans rfl, (blk_cell BK363.out 1).trans rfl, (blk_cell BK363.out 2).trans rfl, (blk_cell BK363.out 3).trans rfl⟩ (fun hHeld => ?_)
            clear hK K
            refine norm_ (a' := ?_) ?_ ?_
            rotate_left
            · show Act.put _ (some 23) _ = _
              simp only [Act.put, List.setIfInBounds_toArray, List.set_cons_zero, List.set_cons_succ, i64_w, i32_w]
              rfl
            refine pure_ (i := 7) (N := some 24) (v := ?_) (a' := ?_) #[true, true, true, true, true, true, true, true, false, false, false, false, false, false, false, false] rfl rfl (any_of HT_.out (by kernel_rfl)) (fun _ _ _ h => h) (Or.inl ⟨by rfl, ?_⟩) ?_ ?_
            rotate_left
            · intro w'
              go_simp
              with_reducible rfl
            rotate_left
            · simp only [Act.put, List.setIfInBounds_toArray, List.set_cons_zero, List.set_cons_succ, i64_w, i32_w]
              rfl
            refine pure_ (i := 8) (N := some 25) (v := ?_) (a' := ?_) #[true, true, true, true, true, true, true, true, true, false, false, false, false, false, false, false] rfl rfl (any_of HT_.out (by kernel_rfl)) (fun _ _ _ h => h) (Or.inl ⟨by rfl, ?_⟩) ?_ ?_
            rotate_left
            · intro w'
              go_simp
              with_reducible rfl
            rotate_left
            · simp only [Act.put, List.setIfInBounds_toArray, List.set_cons_zero, List.set_cons_succ, i64_w, i32_w]
              rfl
            refine pure_ (i := 9) (N := some 26) (v := ?_) (a' := ?_) #[true, true, true, true, true, true, true, true, true, true, false, false, false, false, false, false] rfl rfl (any_of HT_.out (by kernel_rfl)) (fun _ _ _ h => h) (Or.inl ⟨by rfl, ?_⟩) ?_ ?_
            rotate_left
            · intro w'
              go_simp
              with_reducible rfl
            rotate_left
            · simp only [Act.put, List.setIfInBounds_toArray, List.set_cons_zero, List.set_cons_succ, i64_w, i32_w]
              rfl
            refine pure_ (i := 11) (N := some 28) (v := ?_) (a' := ?_) #[true, true, true, true, true, true, true, true, true, true, false, true, false, false, false, false] rfl rfl (any_of HT_.out (by kernel_rfl)) (fun _ _ _ h => h) (Or.inl ⟨by rfl, ?_⟩) ?_ ?_
            rotate_left
            · intro w'
              go_simp
              with_reducible rfl
            rotate_left
            · simp only [Act.put, List.setIfInBounds_toArray, List.set_cons_zero, List.set_cons_succ, i64_w, i32_w]
              rfl
            refine one_ (i := 10) (N := some 27) #[true, true, true, true, true, true, true, true, true, true, true, true, false, false, false, false] rfl rfl (one_of HT_.out (by kernel_rfl)) (by decide) (fun K hK => ?_)
            refine goes_ Try.func38 (by kernel_rfl) rfl #[.slice A1 l1.length c1] (by rfl) rfl rfl (by (try simp only [List.map_toArray, List.map_cons, List.map_nil]); first | done | rfl | (simp only [List.length_drop, List.length_take]; rfl)) ?_
            with_reducible refine (zeal_Zeal.calls kj3 (fun k_ => (((((P0_1_ k_ ∨ P0_2_ k_ ∨ P0_3_ k_ ∨ P1_ k_) ∨ w.heap.size ≤ k_) ∧ k_ ≠ gb363) ∧ some k_ ≠ (.slice Ao26 t370.length co26 : Value).ownBlock) ∧ some k_ ≠ (.slice Ao27 t373.length co27 : Value).ownBlock)) _ _ l1 t377 _ ?side1 A20.out).mono ?_
            (case side1 => exact HO_1.out)
            rintro e w28 ⟨v378, rfl, ho0, hb⟩
            refine ⟨_, rfl, ?_⟩
            have n0_ := am (Kd.V_elder' (by (with_reducible repeat (first | apply vA | apply vN | apply vD)); exact HO_1.out) (Kd.N_base ho0) hb)
            have n1_ := am (Kd.V_elder' (by (with_reducible repeat (first | apply vA | apply vN | apply vD)); exact HO_364001.out) (Kd.N_base ho0) hb)
            have n2_ := am (Kd.V_elder' (by (with_reducible repeat (first | apply vA | apply vN | apply vD)); exact HO_364002.out) (Kd.N_base ho0) hb)
            have n3_ := am (Kd.V_elder' (by (with_reducible repeat (first | apply vA | apply vN | apply vD)); exact HO_364003.out) (Kd.N_base ho0) hb)
            have n4_ := am (Kd.N_elder' (by (with_reducible repeat (first | apply nA | apply nN | apply nD)); exact HO372.out) (Kd.N_base ho0) hb)
            have n5_ := am (Kd.N_elder' (by (with_reducible repeat (first | apply nA | apply nN | apply nD)); exact HO375.out) (Kd.N_base ho0) hb)
            have n6_ := am (Kd.N_lower (Kd.N_mono (ok' := fun k_ => ((P0_1_ k_ ∨ P0_2_ k_ ∨ P0_3_ k_ ∨ P1_ k_) ∨ w.heap.size ≤ k_) ∧ some k_ ≠ (.slice Ao26 t370.length co26 : Value).ownBlock ∧ some k_ ≠ (.slice Ao27 t373.length co27 : Value).ownBlock ∧ k_ ≠ gb363) ho0 (fun k_ hk_ => ⟨Or.elim hk_ (fun hs_ => hs_.1.1.1) (fun hn_ => (.inr (Nat.le_trans (below_size (by repeat (first | (with_reducible first | exact HB.out | apply below_alloc | apply pw_below_drewN | apply below_drew1 | refine below_set ?_ GE363.out) | exact HB.out))) hn_))), Or.elim hk_ (fun hs_ => hs_.1.2) (fun hn_ => (Kd.fresh' (Kd.N_lt (by (with_reducible repeat (first | apply nA | apply nN | apply nD)); exact HO372.out)) k_ hn_)), Or.elim hk_ (fun hs_ => hs_.2) (fun hn_ => (Kd.fresh' (Kd.N_lt (by (with_reducible repeat (first | apply nA | apply nN | apply nD)); exact HO375.out)) k_ hn_)), Or.elim hk_ (fun hs_ => hs_.1.1.2) (fun hn_ => (Kd.freshB (g := gb363) (o := .cells #[.bool a0_0, .slice A0_1 l0_1.length c0_1, .slice A0_2 l0_2.length c0_2, .slice A0_3 l0_3.length c0_3] 27 (0, 0)) (by (with_reducible repeat (first | refine blk_drewN ?_ _ | refine blk_drew ?_ | refine blk_alloc ?_ _)); exact BK363.out) k_ hn_))⟩)) (below_size (by repeat (first | (with_reducible first | exact HB.out | apply below_alloc | apply pw_below_drewN | apply below_drew1 | refine below_set ?_ GE363.out) | exact HB.out))))
            have n7_ := am (blk_below (g := gb363) (o := .cells #[.bool a0_0, .slice A0_1 l0_1.length c0_1, .slice A0_2 l0_2.length c0_2, .slice A0_3 l0_3.length c0_3] 27 (0, 0)) (by (with_reducible repeat (first | refine blk_drewN ?_ _ | refine blk_drew ?_ | refine blk_alloc ?_ _)); exact BK363.out) hb)
            have n8_ := am (below_step (by repeat (first | (with_reducible first | exact HB.out | apply below_alloc | apply pw_below_drewN | apply below_drew1 | refine below_set ?_ GE363.out) | exact HB.out)) hb)
            clear HO_1
            clear HO_364001
            clear HO_364002
            clear HO_364003
            clear HO372
            clear HO375
            clear BK363
            clear HB
            have HO_1 := n0_
            have HO_364001 := n1_
            have HO_364002 := n2_
            have HO_364003 := n3_
            have HO372 := n4_
            have HO375 := n5_
            have HO379 := n6_
            have BK363 := n7_
            have HB := n8_
            clear n0_ n1_ n2_ n3_ n4_ n5_ n6_ n7_ n8_
            (try clear hb)
            (try clear hb2)
            (try clear hk)
            (try clear hi)
            (try clear ho0)
            refine hK.out _ _ ⟨(blk_cell BK363.out 0).trans rfl, (blk_cell BK363.out 1).trans rfl, (blk_cell BK363.out 2).trans rfl, (blk_cell BK363.out 3).trans rfl⟩ (fun hHeld => ?_)
            clear hK K
            refine norm_ (a' := ?_) ?_ ?_
            rotate_left
            · show Act.put _ (some 27) _ = _
              simp only [Act.put, List.setIfInBounds_toArray, List.set_cons_zero, List.set_cons_succ, i64_w, i32_w]
              rfl
            refine one_ (i := 12) (N := some 29) #[true, true, true, true, true, true, true, true, true, true, true, true, true, false, false, false] rfl rfl (one_of HT_.out (by kernel_rfl)) (by decide) (fun K hK => ?_)
            refine goes_ Try.func39 (by kernel_rfl) rfl #[.slice A1 l1.length c1] (by rfl) rfl rfl (by (try simp only [List.map_toArray, List.map_cons, List.map_nil]); first | done | rfl | (simp only [List.length_drop, List.length_take]; rfl)) ?_
            with_reducible refine (sennitref10_Zeal.calls kj3 (fun k_ => ((((((P0_1_ k_ ∨ P0_2_ k_ ∨ P0_3_ k_ ∨ P1_ k_) ∨ w.heap.size ≤ k_) ∧ k_ ≠ gb363) ∧ some k_ ≠ (.slice Ao26 t370.length co26 : Value).ownBlock) ∧ some k_ ≠ (.slice Ao27 t373.length co27 : Value).ownBlock) ∧ some k_ ≠ (v378 : Value).ownBlock)) _ _ l1 t380 _ ?side1 A21.out).mono ?_
            (case side1 => exact HO_1.out)
            rintro e w29 ⟨v381, rfl, ho0, hb⟩
            refine ⟨_, rfl, ?_⟩
            have n0_ := am (Kd.V_elder' (by (with_reducible repeat (first | apply vA | apply vN | apply vD)); exact HO_1.out) (Kd.N_base ho0) hb)
            have n1_ := am (Kd.V_elder' (by (with_reducible repeat (first | apply vA | apply vN | apply vD)); exact HO_364001.out) (Kd.N_base ho0) hb)
            have n2_ := am (Kd.V_elder' (by (with_reducible repeat (first | apply vA | apply vN | apply vD)); exact HO_364002.out) (Kd.N_base ho0) hb)
            have n3_ := am (Kd.V_elder' (by (with_reducible repeat (first | apply vA | apply vN | apply vD)); exact HO_364003.out) (Kd.N_base ho0) hb)
            have n4_ := am (Kd.N_elder' (by (with_reducible repeat (first | apply nA | apply nN | apply nD)); exact HO372.out) (Kd.N_base ho0) hb)
            have n5_ := am (Kd.N_elder' (by (with_reducible repeat (first | apply nA | apply nN | apply nD)); exact HO375.out) (Kd.N_base ho0) hb)
            have n6_ := am (Kd.N_elder' (by (with_reducible repeat (first | apply nA | apply nN | apply nD)); exact HO379.out) (Kd.N_base ho0) hb)
            have n7_ := am (Kd.N_lower (Kd.N_mono (ok' := fun k_ => ((P0_1_ k_ ∨ P0_2_ k_ ∨ P0_3_ k_ ∨ P1_ k_) ∨ w.heap.size ≤ k_) ∧ some k_ ≠ (.slice Ao26 t370.length co26 : Value).ownBlock ∧ some k_ ≠ (.slice Ao27 t373.length co27 : Value).ownBlock ∧ some k_ ≠ (v378 : Value).ownBlock ∧ k_ ≠ gb363) ho0 (fun k_ hk_ => ⟨Or.elim hk_ (fun hs_ => hs_.1.1.1.1) (fun hn_ => (.inr (Nat.le_trans (below_size (by repeat (first | (with_reducible first | exact HB.out | apply below_alloc | apply pw_below_drewN | apply below_drew1 | refine below_set ?_ GE363.out) | exact HB.out))) hn_))), Or.elim hk_ (fun hs_ => hs_.1.1.2) (fun hn_ => (Kd.fresh' (Kd.N_lt (by (with_reducible repeat (first | apply nA | apply nN | apply nD)); exact HO372.out)) k_ hn_)), Or.elim hk_ (fun hs_ => hs_.1.2) (fun hn_ => (Kd.fresh' (Kd.N_lt (by (with_reducible repeat (first | apply nA | apply nN | apply nD)); exact HO375.out)) k_ hn_)), Or.elim hk_ (fun hs_ => hs_.2) (fun hn_ => (Kd.fresh' (Kd.N_lt (by (with_reducible repeat (first | apply nA | apply nN | apply nD)); exact HO379.out)) k_ hn_)), Or.elim hk_ (fun hs_ => hs_.1.1.1.2) (fun hn_ => (Kd.freshB (g := gb363) (o := .cells #[.bool a0_0, .slice A0_1 l0_1.length c0_1, .slice A0_2 l0_2.length c0_2, .slice A0_3 l0_3.length c0_3] 27 (0, 0)) (by (with_reducible repeat (first | refine blk_drewN ?_ _ | refine blk_drew ?_ | refine blk_alloc ?_ _)); exact BK363.out) k_ hn_))⟩)) (below_size (by repeat (first | (with_reducible first | exact HB.out | apply below_alloc | apply pw_below_drewN | apply below_drew1 | refine below_set ?_ GE363.out) | exact HB.out))))
            have n8_ := am (blk_below (g := gb363) (o := .cells #[.bool a0_0, .slice A0_1 l0_1.length c0_1, .slice A0_2 l0_2.length c0_2, .slice A0_3 l0_3.length c0_3] 27 (0, 0)) (by (with_reducible repeat (first | refine blk_drewN ?_ _ | refine blk_drew ?_ | refine blk_alloc ?_ _)); exact BK363.out) hb)
            have n9_ := am (below_step (by repeat (first | (with_reducible first | exact HB.out | apply below_alloc | apply pw_below_drewN | apply below_drew1 | refine below_set ?_ GE363.out) | exact HB.out)) hb)
            clear HO_1
            clear HO_364001
            clear HO_364002
            clear HO_364003
            clear HO372
            clear HO375
            clear HO379
            clear BK363
            clear HB
            have HO_1 := n0_
            have HO_364001 := n1_
            have HO_364002 := n2_
            have HO_364003 := n3_
            have HO372 := n4_
            have HO375 := n5_
            have HO379 := n6_
            have HO382 := n7_
            have BK363 := n8_
            have HB := n9_
            clear n0_ n1_ n2_ n3_ n4_ n5_ n6_ n7_ n8_ n9_
            (try clear hb)
            (try clear hb2)
            (try clear hk)
            (try clear hi)
            (try clear ho0)
            obtain ⟨Ao30, co30, eo30⟩ := Kd.N_slice HO379.out
            (first | subst eo30 | (injection eo30 with f1_ f2_ f3_; have f4_ := f1_.symm; have f5_ := f3_.symm; clear f1_ f2_ f3_; subst f4_; subst f5_))
            obtain ⟨Ao31, co31, eo31⟩ := Kd.N_slice HO382.out
            (first | subst eo31 | (injection eo31 with f1_ f2_ f3_; have f4_ := f1_.symm; have f5_ := f3_.symm; clear f1_ f2_ f3_; subst f4_; subst f5_))
            refine hK.out _ _ ⟨(blk_cell BK363.out 0).trans rfl, (blk_cell BK363.out 1).trans rfl, (blk_cell BK363.out 2).trans rfl, (blk_cell BK363.out 3).trans rfl⟩ (fun hHeld => ?_)
            clear hK K
            refine norm_ (a' := ?_) ?_ ?_
            rotate_left
            · show Act.put _ (some 29) _ = _
              simp only [Act.put, List.setIfInBounds_toArray, List.set_cons_zero, List.set_cons_succ, i64_w, i32_w]
              rfl
            refine one_ (i := 13) (N := some 30) #[true, true, true, true, true, true, true, true, true, true, true, true, true, true, false, false] rfl rfl (one_of HT_.out (by kernel_rfl)) (by decide) (fun K hK => ?_)
            refine goes_ Try.func34 (by kernel_rfl) rfl #[.slice Ao30 t377.length co30, .slice Ao31 t380.length co31] (by rfl) rfl rfl (by (try simp only [List.map_toArray, List.map_cons, List.map_nil]); first | done | rfl | (simp only [List.length_drop, List.length_take]; rfl)) ?_
            with_reducible refine (sennitref07_Same.calls kj3 _ _ t377 _ _ t380 t383 _ ?side1 ?side2 ?side3 ?side4 A22.out).mono ?_
            (case side1 => repeat (first | exact (Kd.N_reads' HO379.out).2.2 | (with_reducible refine Kd.C_alloc ?_ _) | (with_reducible refine Kd.C_drewN ?_ _) | (with_reducible refine Kd.C_drew ?_)))
            (case side2 => exact (Kd.N_reads' HO379.out).2.1)
            (case side3 => repeat (first | exact (Kd.N_reads' HO382.out).2.2 | (with_reducible refine Kd.C_alloc ?_ _) | (with_reducible refine Kd.C_drewN ?_ _) | (with_reducible refine Kd.C_drew ?_)))
            (case side4 => exact (Kd.N_reads' HO382.out).2.1)
            rintro e w' ⟨rfl, ⟨nd, rfl⟩⟩
            refine ⟨_, rfl, ?_⟩
            refine hK.out _ _ ⟨(blk_cell BK363.out 0).trans rfl, (blk_cell BK363.out 1).trans rfl, (blk_cell BK363.out 2).trans rfl, (blk_cell BK363.out 3).trans rfl⟩ (fun hHeld => ?_)
            clear hK K
            refine norm_ (a' := ?_) ?_ ?_
            rotate_left
            · show Act.put _ (some 30) _ = _
              simp only [Act.put, List.setIfInBounds_toArray, List.set_cons_zero, List.set_cons_succ, i64_w, i32_w]
              rfl
            refine pure_ (i := 14) (N := some 31) (v := ?_) (a' := ?_) #[true, true, true, true, true, true, true, true, true, true, true, true, true, true, true, false] rfl rfl (any_of HT_.out (by kernel_rfl)) (fun _ _ _ h => h) (Or.inl ⟨by rfl, ?_⟩) ?_ ?_
            rotate_left
            · intro w'
              go_simp
              with_reducible rfl
            rotate_left
            · simp only [Act.put, List.setIfInBounds_toArray, List.set_cons_zero, List.set_cons_succ, i64_w, i32_w]
              rfl
            refine pure_ (i := 15) (N := some 4) (v := ?_) (a' := ?_) #[true, true, true, true, true, true, true, true, true, true, true, true, true, true, true, true] rfl rfl (any_of HT_.out (by kernel_rfl)) (fun _ _ _ h => h) (Or.inl ⟨by rfl, ?_⟩) ?_ ?_
            rotate_left
            · intro w'
              go_simp
              with_reducible rfl
            rotate_left
            · simp only [Act.put, List.setIfInBounds_toArray, List.set_cons_zero, List.set_cons_succ, i64_w, i32_w]
              rfl
            refine done_ (done_of HT_.out (by kernel_rfl)) ?_
            try go_wp2
            go_ret
            exact ⟨by first | rfl | (simp [errW_none, errW_some] <;> rfl) | (simp [*, errW_none, errW_some] <;> rfl), by repeat (first | (with_reducible first | exact HB.out | apply below_alloc | apply pw_below_drewN | apply below_drew1 | refine below_set ?_ GE363.out) | exact HB.out)⟩
          · replace c19 := Bool.eq_false_iff.mpr c19
            subst c19
            have H1 : (none) = some r := by rw [if_neg (show ¬ (false = true) by decide)] at H; exact H
            clear H
            have H := H1
            clear H1
            exact absurd H (by simp)
        · replace c15 := Bool.eq_false_iff.mpr c15
          subst c15
          have H1 : (none) = some r := by rw [if_neg (show ¬ (false = true) by decide)] at H; exact H
          clear H
          have H := H1
          clear H1
          exact absurd H (by simp)

end Go.Proofs.Ytiaoppikdgoieaa.M
namespace Go.Proofs.Ytiaoppikdgoieaa.Pure
open Go.RowKit Go.Proofs.Ytiaoppikdgoieaa.M Go.Proofs.Ytiaoppikdgoieaa.Hand Go.Proofs.YtiaoppikdgoieaaW.PrintWords Go.Proofs.YtiaoppikdgoieaaW.PrintLast Go.Proofs.YtiaoppikdgoieaaW.PrintMore
set_option linter.unusedVariables false
set_option linter.unusedSimpArgs false

theorem rdT27 (xs : List S27) (i : Nat) (h : i < xs.length) : rd_T27 xs (i : Int) = xs[i] := by
  simp [rd_T27, List.getD_eq_getElem?_getD, h]
theorem sameG_self (a : List S27) : sameG a a = true := (sameP_all a a).2 rfl
theorem sameG_iff (a b : List S27) : sameG a b = true ↔ a = b := sameP_all a b
theorem small_okS {l : List S27} (h1 : l.length ≤ 100000) (h2 : ∀ p ∈ l, p.f3.length ≤ 800 ∧ ∀ x ∈ p.f3, x.length ≤ 800) : okS l :=
  ⟨by omega, fun p hp => ⟨by have := (h2 p hp).1; omega, fun x hx => by have := (h2 p hp).2 x hx; omega⟩⟩
theorem rSame_f (l0 l1 : List S27) (k : Nat) (h1 : l0.length ≤ 100000) (h2 : ∀ p ∈ l0, p.f3.length ≤ 800 ∧ ∀ x ∈ p.f3, x.length ≤ 800) : sennitref07_Same.f k l0 l1 = some (sameG l0 l1) := by
  unfold sennitref07_Same.f; rw [if_pos (small_okS h1 h2)]
theorem pSame_f (l0 l1 : List S27) (k : Nat) (h1 : l0.length ≤ 100000) : pick_Same.f k l0 l1 = some (sameG l0 l1) := by
  unfold pick_Same.f; rw [if_pos (by omega)]
end Go.Proofs.Ytiaoppikdgoieaa.Pure
namespace Go.Proofs.Ytiaoppikdgoieaa.Pure
open Go.RowKit Go.Proofs.Ytiaoppikdgoieaa.M Go.Proofs.Ytiaoppikdgoieaa.Hand Go.Proofs.YtiaoppikdgoieaaW.PrintWords Go.Proofs.YtiaoppikdgoieaaW.PrintLast Go.Proofs.YtiaoppikdgoieaaW.PrintMore
set_option linter.unusedVariables false
set_option linter.unusedSimpArgs false

/-- A piece of few texts. -/
def SmallP (p : S27) : Prop := Small p.f1 ∧ Small p.f2 ∧ p.f3.length ≤ 6 ∧ ∀ x ∈ p.f3, Small x
/-- A piece as it may come in. -/
def okIn (p : S27) : Prop := p.f1.length ≤ 9223372036854775807 ∧ p.f2.length ≤ 9223372036854775807 ∧ p.f3.length ≤ 9223372036854775807 ∧ ∀ x ∈ p.f3, x.length ≤ 9223372036854775807
theorem few07_l0 (l : List S27) (h1 : l.length ≤ 9223372036854775807) (h2 : ∀ p ∈ l, okIn p) (d : Nat) :
    ∀ i, i ≤ l.length → i ≤ 13 → 13 - i = d → (∀ j x, j < i → l[j]? = some x → SmallP x) →
    ∃ b, (∀ k, 2 * d + 200 ≤ k → sennitref07_Few.l0 k l (i : Int) = some b) ∧ (b = true → l.length ≤ 12 ∧ ∀ x ∈ l, SmallP x) := by
  have fin : ∀ i, i ≤ l.length → ¬ (i < l.length ∧ i < 13) → (∀ j x, j < i → l[j]? = some x → SmallP x) →
      ∃ b, (∀ k, 50 ≤ k → sennitref07_Few.l0 k l (i : Int) = some b) ∧ (b = true → l.length ≤ 12 ∧ ∀ x ∈ l, SmallP x) := by
    intro i hi hn hp
    refine ⟨decide ((l.length : Int) ≤ 12), fun k hk => ?_, fun h => ?_⟩
    · obtain ⟨k, rfl⟩ : ∃ q, k = q + 2 := ⟨k - 2, by omega⟩
      have e : sennitref07_Few.j1 (k + 1) l (i : Int) false = some (decide ((l.length : Int) ≤ 12)) := by
        rw [sennitref07_Few.j1, if_neg (by decide)]
      rw [sennitref07_Few.l0]
      by_cases h : i < l.length
      · rw [if_pos (by omega), decide_eq_false (by omega), e]
      · rw [if_neg (by omega), e]
    · simp only [decide_eq_true_eq] at h
      refine ⟨by omega, fun x hx => ?_⟩
      obtain ⟨j, hj⟩ := List.getElem?_of_mem hx
      have := (List.getElem?_eq_some_iff.1 hj).1
      exact hp j x (by omega) hj
  induction d with
  | zero =>
    intro i hi hi7 hd hp
    obtain ⟨b, h1, h2⟩ := fin i hi (by omega) hp
    exact ⟨b, fun k hk => h1 k (by omega), h2⟩
  | succ d ih =>
    intro i hi hi7 hd hp
    by_cases hc : i < l.length
    · obtain ⟨o1, o2, o3, o4⟩ := h2 _ (List.getElem_mem hc)
      obtain ⟨c, hcc, hC⟩ := few_f (l[i]).f1 20 (by omega) o1
      obtain ⟨e, hee, hE⟩ := few06_f (l[i]).f2 (l[i]).f3 o2 o3 o4
      cases c with
      | true =>
        cases e with
        | true =>
          obtain ⟨b, hb, hB⟩ := ih (i + 1) (by omega) (by omega) (by omega) (fun j x hj hx => by
            by_cases e : j = i
            · subst e
              rw [List.getElem?_eq_getElem hc] at hx
              injection hx with hx
              obtain ⟨q1, q2, q3⟩ := hE rfl
              rw [← hx]; exact ⟨hC rfl, q1, q2, q3⟩
            · exact hp j x (by omega) hx)
          refine ⟨b, fun k hk => ?_, hB⟩
          obtain ⟨k, rfl⟩ : ∃ q, k = q + 2 := ⟨k - 2, by omega⟩
          rw [sennitref07_Few.l0, if_pos (by omega), decide_eq_true (by omega), sennitref07_Few.j1, if_pos rfl, if_pos (by omega), if_pos (by omega), rdT27 _ _ hc, show (20 : Int) = ((20 : Nat) : Int) from rfl, hcc k (by omega), Option.bind_some, if_pos rfl, hee k (by omega), Option.bind_some, if_pos rfl, wrap_succ hc h1]
          exact hb k (by omega)
        | false =>
          refine ⟨false, fun k hk => ?_, fun h => by cases h⟩
          obtain ⟨k, rfl⟩ : ∃ q, k = q + 2 := ⟨k - 2, by omega⟩
          rw [sennitref07_Few.l0, if_pos (by omega), decide_eq_true (by omega), sennitref07_Few.j1, if_pos rfl, if_pos (by omega), if_pos (by omega), rdT27 _ _ hc, show (20 : Int) = ((20 : Nat) : Int) from rfl, hcc k (by omega), Option.bind_some, if_pos rfl, hee k (by omega), Option.bind_some, if_neg (by decide)]
      | false =>
        refine ⟨false, fun k hk => ?_, fun h => by cases h⟩
        obtain ⟨k, rfl⟩ : ∃ q, k = q + 2 := ⟨k - 2, by omega⟩
        rw [sennitref07_Few.l0, if_pos (by omega), decide_eq_true (by omega), sennitref07_Few.j1, if_pos rfl, if_pos (by omega), if_pos (by omega), rdT27 _ _ hc, show (20 : Int) = ((20 : Nat) : Int) from rfl, hcc k (by omega), Option.bind_some, if_neg (by decide)]
    · obtain ⟨b, h1, h2⟩ := fin i hi (by omega) hp
      exact ⟨b, fun k hk => h1 k (by omega), h2⟩
theorem few07_f (l : List S27) (h1 : l.length ≤ 9223372036854775807) (h2 : ∀ p ∈ l, okIn p) :
    ∃ b, (∀ k, 300 ≤ k → sennitref07_Few.f k l = some b) ∧ (b = true → l.length ≤ 12 ∧ ∀ x ∈ l, SmallP x) := by
  obtain ⟨b, hb, hB⟩ := few07_l0 l h1 h2 13 0 (by omega) (by omega) (by omega) (fun j x hj => by omega)
  exact ⟨b, fun k hk => hb k (by omega), hB⟩

end Go.Proofs.Ytiaoppikdgoieaa.Pure
