/- flags.bracket's closures, mark and list: what they leave in the two variables that they share. -/
import Derived.RangeFuncBox
import Derived.Test.YtbhfenpccccloaaH2
import Derived.Test.YtbhfenpccccloaaF67
namespace Go.Proofs.Ytbhfenpccccloaa.M
open Go.RowKit Go.Proofs Go.Proofs.Ytbhfenpccccloaa.Hand Go.Proofs.YtbhfenpccccloaaW.PrintWords Go.Proofs.YtbhfenpccccloaaW.PrintLast Go.Proofs.YtbhfenpccccloaaW.PrintMore
attribute [local go_sem] Oper.semAt_some
set_option linter.unusedVariables false
set_option linter.unusedSimpArgs false

/-- The two variables: the list that grows, and whether the last one isn't ended. -/
def VarsB (n₀ Bo Bp : Nat) (W : World) (o : List ByteArray) (b : Bool) : Prop :=
  (∃ v, Boxed W Bo 22 v ∧ Kd.R Kd.string 9 W n₀ (fun _ => True) v o) ∧ Boxed W Bp 4 (.bool b)
def markB (b : Bool) (s t : ByteArray) : ByteArray := (if b = true then s ++ ⟨#[33]⟩ else s) ++ t ++ ⟨#[10]⟩
def listB (o l : List ByteArray) (b : Bool) : List ByteArray := if b = true then (o ++ l).set ((o ++ l).length - 1) (rdOf ByteArray.empty (o ++ l) (((o ++ l).length - 1 : Nat) : Int) ++ ⟨#[10]⟩) else o ++ l
theorem app1 {ops : Array Oper} {rest : List Oper} {op : Oper} {a : Act} {Q : Exit → Act → World → Prop} (hgd : op.guard = none) (s x : Operand) (hop : op.op = .call { callee := .builtin .append, args := #[s, x], argTypes := #[22, 22] })
    (W : World) (n₀ : Nat) (v : Value) (xs : List ByteArray) (p : ByteArray) (hs : a.eval s = v) (hx : a.eval x = .slice (some ⟨W.heap.size, 0, none⟩) 1 1) (HO : Kd.R Kd.string 9 W n₀ (fun _ => True) v xs) (hn : n₀ ≤ W.heap.size) (hl : xs.length ≤ 1000000)
    (h : ∀ v1 w1, Kd.R Kd.string 9 w1 n₀ (fun _ => True) v1 (xs ++ [p]) → Below n₀ W w1 → W.grownBy w1 v.ownBlock → wpList Try.prog ops Q rest (a.put op.dst v1) w1) :
    wpList Try.prog ops Q (op :: rest) a (W.alloc (.cells #[.string p] 9)) :=
  Kd.R_append Kd.string (w0 := W) n₀ hgd s x 22 9 (.string ⟨#[]⟩) 16 hop Try.underlying22 info9 rfl (by decide) (by omega) v xs p [.string p] (fun _ => True) (fun _ => False) hs hx rfl (fun _ hk => hk.elim) (fun _ _ => trivial) HO (Below.refl _ _) hn (by omega) (fun v1 w1 h1 h2 h3 _ => h v1 w1 h1 h2 h3)
theorem appN {ops : Array Oper} {rest : List Oper} {op : Oper} {a : Act} {Q : Exit → Act → World → Prop} (hgd : op.guard = none) (s x : Operand) (hop : op.op = .call { callee := .builtin .append, args := #[s, x], argTypes := #[22, 22] })
    (W : World) (n₀ : Nat) (v : Value) (xs ys : List ByteArray) (A : Option Addr) (c : Nat) (hs : a.eval s = v) (hx : a.eval x = .slice A ys.length c) (HO : Kd.R Kd.string 9 W n₀ (fun _ => True) v xs) (HR : Kd.C Kd.string W A ys.length ys) (hn : n₀ ≤ W.heap.size) (hl : xs.length + ys.length ≤ 1000000)
    (h : ∀ v1 w1, Kd.R Kd.string 9 w1 n₀ (fun _ => True) v1 (xs ++ ys) → Below n₀ W w1 → W.grownBy w1 v.ownBlock → wpList Try.prog ops Q rest (a.put op.dst v1) w1) :
    wpList Try.prog ops Q (op :: rest) a W :=
  Kd.R_append_rows Kd.string (w0 := W) n₀ hgd s x 22 9 (.string ⟨#[]⟩) 16 hop Try.underlying22 info9 rfl (by decide) (by omega) v xs ys A ys.length c (fun _ => True) (fun _ => False) hs hx HO HR (fun _ _ h => h) (fun _ h => h.elim) (fun _ _ => trivial) (Below.refl _ _) hn (by omega) (fun v1 w1 h1 h2 h3 _ => h v1 w1 h1 h2 h3)
theorem varsB_box {n₀ Bo Bp : Nat} {w1 : World} {v v1 : Value} {o : List ByteArray} {b : Bool} (hn : n₀ ≤ Bo) (hne : Bp ≠ Bo) (hv : Boxed w1 Bo 22 v) (hb : Boxed w1 Bp 4 (.bool b)) (hR : Kd.R Kd.string 9 w1 n₀ (fun _ => True) v1 o) :
    VarsB n₀ Bo Bp (w1.setCell ⟨Bo, 0, none⟩ v1) o b ∧ Below n₀ w1 (w1.setCell ⟨Bo, 0, none⟩ v1) :=
  ⟨⟨⟨v1, hv.set v1, Kd.R_mono (Kd.R_set hR hv (by intro q hq; simp [Kd.string, Kd.scalar] at hq; omega) 0 v1) (fun _ _ => trivial)⟩, (Below.heap_setCell w1 ⟨Bo, 0, none⟩ v1 Bp hne).trans hb⟩, (Below.refl _ _).setCell (p := ⟨Bo, 0, none⟩) (by show n₀ ≤ Bo; exact hn) _⟩

set_option maxHeartbeats 4000000 in
set_option maxRecDepth 100000 in
theorem mark_c (n₀ Bo Bp : Nat) (hn : n₀ ≤ Bo) (hne : Bp ≠ Bo) (o : List ByteArray) (b : Bool) (s t : ByteArray) (hs : s.size ≤ 100) (ht : t.size ≤ 100) (ho : o.length ≤ 1000000) (W : World) (hW : n₀ ≤ W.heap.size) (h : VarsB n₀ Bo Bp W o b) :
    Calls Try.prog 65 #[.string s, .string t, .pointer (some ⟨Bp, 0, none⟩), .pointer (some ⟨Bo, 0, none⟩)] W fun e w' => e = .returned (.tuple #[]) ∧ VarsB n₀ Bo Bp w' (o ++ [markB b s t]) b ∧ Below n₀ W w' := by
  obtain ⟨⟨v, hv, hR⟩, hb⟩ := h
  obtain ⟨A, c, rfl⟩ := Kd.R_slice hR
  have hvc := hv.cell
  have hbc := hb.cell
  have c1 : (s.size + 1 ≤ 9223372036854775807) = True := eq_true (by omega)
  have c2 : (s.size + t.size ≤ 9223372036854775807) = True := eq_true (by omega)
  have c3 : (s.size + t.size + 1 ≤ 9223372036854775807) = True := eq_true (by omega)
  have c4 : (s.size + 1 + t.size ≤ 9223372036854775807) = True := eq_true (by omega)
  have c5 : (s.size + 1 + t.size + 1 ≤ 9223372036854775807) = True := eq_true (by omega)
  cases b
  all_goals
    go_enter Try.func65, Try.ntmps65
    go_wp2_with (first
      | (at_builtin; go_loud (refine app1 rfl (.tmp 9) (.tmp 14) rfl W n₀ _ o _ rfl rfl hR hW ho ?_)
         intro v1 w1 hR1 hB1 hg1
         obtain ⟨A1, k1, rfl⟩ := Kd.R_slice hR1
         have hv1 := hv.kept hg1 (Kd.R_ne hR hv (by decide))
         have hb1 := hb.kept hg1 (Kd.R_ne hR hb (by decide))
         have hc1 := hv1.cell
         have hf1 := hv1.frozen))
  all_goals
    obtain ⟨x1, x2⟩ := varsB_box hn hne hv1 hb1 hR1
    simp only [List.length_append, List.length_cons, List.length_nil, Nat.zero_add] at x1 x2
    first | go_end0 | (simp only [Exit.inBlock, Exit.then]; refine bodyPost_ret (results_none rfl _ _ _) rfl ?_) | refine bodyPost_ret (results_none rfl _ _ _) rfl ?_ | trace_state
    exact ⟨rfl, x1, hB1.trans x2⟩

theorem openV {n₀ Bo Bp : Nat} {W : World} {o : List ByteArray} {b : Bool} (h : VarsB n₀ Bo Bp W o b) (hn : n₀ ≤ Bp) (hne : Bo ≠ Bp) (b' : Bool) : VarsB n₀ Bo Bp (W.setCell ⟨Bp, 0, none⟩ (.bool b')) o b' ∧ Below n₀ W (W.setCell ⟨Bp, 0, none⟩ (.bool b')) := by
  obtain ⟨⟨v, hv, hR⟩, hb⟩ := h
  exact ⟨⟨⟨v, (Below.heap_setCell W ⟨Bp, 0, none⟩ (.bool b') Bo hne).trans hv, Kd.R_mono (Kd.R_set hR hb (by intro q hq; simp [Kd.string, Kd.scalar] at hq; omega) 0 (.bool b')) (fun _ _ => trivial)⟩, hb.set (.bool b')⟩, (Below.refl _ _).setCell (p := ⟨Bp, 0, none⟩) (by show n₀ ≤ Bp; exact hn) _⟩
theorem drawnV {n₀ Bo Bp : Nat} {W w : World} {o : List ByteArray} {b : Bool} (h : VarsB n₀ Bo Bp W o b) (hd : Drawn0 W w) : VarsB n₀ Bo Bp w o b ∧ Below n₀ W w := by
  obtain ⟨nd, rfl⟩ := hd
  obtain ⟨⟨v, hv, hR⟩, hb⟩ := h
  exact ⟨⟨⟨v, hv, Kd.R_drewN hR nd⟩, hb⟩, pw_below_drewN (Below.refl _ _) nd⟩

theorem cell_blk3 {W W' : World} {g i : Nat} {x : Value} (h : W'.heap[g]? = W.heap[g]?) (hc : W.cell? ⟨g, i, none⟩ = some x) : W'.cell? ⟨g, i, none⟩ = some x := by
  unfold World.cell? at hc ⊢
  rw [h]; exact hc
theorem frozen_blk3 {W W' : World} {g i : Nat} (h : W'.heap[g]? = W.heap[g]?) (hc : W.frozen? ⟨g, i, none⟩ = false) : W'.frozen? ⟨g, i, none⟩ = false := by
  unfold World.frozen? at hc ⊢
  rw [h]; exact hc
theorem R_two {n₀ : Nat} {w1 : World} {v u : Value} {xs : List ByteArray} {Bo Bp : Nat} {vo : Value} {b : Bool} (hR : Kd.R Kd.string 9 w1 n₀ (fun _ => True) v xs) (hv : Boxed w1 Bo 22 vo) (hb : Boxed w1 Bp 4 (.bool b)) (hne : Bp ≠ Bo) (nd : Nat) (b' : Bool) :
    Kd.R Kd.string 9 (((w1.setCell ⟨Bo, 0, none⟩ u).drewN nd).setCell ⟨Bp, 0, none⟩ (.bool b')) n₀ (fun _ => True) v xs ∧ Boxed (((w1.setCell ⟨Bo, 0, none⟩ u).drewN nd).setCell ⟨Bp, 0, none⟩ (.bool b')) Bo 22 u ∧ Boxed (((w1.setCell ⟨Bo, 0, none⟩ u).drewN nd).setCell ⟨Bp, 0, none⟩ (.bool b')) Bp 4 (.bool b') := by
  have h1 := Kd.R_mono (Kd.R_set hR hv (by intro q hq; simp [Kd.string, Kd.scalar] at hq; omega) 0 u) (fun _ _ => trivial : ∀ k, _ → True)
  have hb1 : Boxed ((w1.setCell ⟨Bo, 0, none⟩ u).drewN nd) Bp 4 (.bool b) := (Below.heap_setCell w1 ⟨Bo, 0, none⟩ u Bp hne).trans hb
  have hv1 : Boxed ((w1.setCell ⟨Bo, 0, none⟩ u).drewN nd) Bo 22 u := hv.set u
  have h2 := Kd.R_drewN h1 nd
  exact ⟨Kd.R_mono (Kd.R_set h2 hb1 (by intro q hq; simp [Kd.string, Kd.scalar] at hq; omega) 0 (.bool b')) (fun _ _ => trivial), (Below.heap_setCell _ ⟨Bp, 0, none⟩ (.bool b') Bo (Ne.symm hne)).trans hv1, hb1.set (.bool b')⟩

set_option maxHeartbeats 4000000 in
set_option maxRecDepth 100000 in
theorem list_c (w0 : World) (Bo Bp : Nat) (hn : w0.heap.size ≤ Bo) (hnp : w0.heap.size ≤ Bp) (hne : Bp ≠ Bo) (o l : List ByteArray) (b b' : Bool) (A0 : Option Addr) (c0 : Nat) (hsz : ∀ s ∈ o ++ l, s.size ≤ 1000000) (ho : o.length + l.length ≤ 1000000) (W : World) (hB : Below w0.heap.size w0 W) (h : VarsB w0.heap.size Bo Bp W o b)
    (hr : Kd.C Kd.string w0 A0 l.length l) (hc : l.length ≤ c0) (hop : lines_Open.f l = some b') (hpos : b' = true → 0 < l.length) :
    Calls Try.prog 66 #[.slice A0 l.length c0, .pointer (some ⟨Bo, 0, none⟩), .pointer (some ⟨Bp, 0, none⟩)] W fun e w' => e = .returned (.tuple #[]) ∧ VarsB w0.heap.size Bo Bp w' (listB o l b') b' ∧ Below w0.heap.size w0 w' := by
  have hW := hB.size
  obtain ⟨⟨v, hv, hR⟩, hb⟩ := h
  obtain ⟨A, c, rfl⟩ := Kd.R_slice hR
  have hvc := hv.cell
  have hbc := hb.cell
  have hvf := hv.frozen
  cases b' with
  | false =>
    go_enter Try.func66, Try.ntmps66
    go_wp2_with (first
      | (at_builtin; refine appN rfl (.tmp 4) (.tmp 5) rfl W w0.heap.size _ o l A0 c0 rfl rfl hR (Kd.C_below hr hB) hW ho ?_
         intro v1 w1 hR1 hB1 hg1
         obtain ⟨A1, k1, rfl⟩ := Kd.R_slice hR1
         have hv1 := hv.kept hg1 (Kd.R_ne hR hv (by decide))
         have hb1 := hb.kept hg1 (Kd.R_ne hR hb (by decide))
         have hc1 := hv1.cell
         have hf1 := hv1.frozen
         have hbc1 := hb1.cell
         have hbf1 := hb1.frozen)
      | (go_at_call 67; (with_reducible refine (lines_Open.calls _ _ l false _ (Kd.C_below hr ((hB.trans hB1).trans ((Below.refl _ _).setCell (p := ⟨Bo, 0, none⟩) (by show w0.heap.size ≤ Bo; exact hn) _))) hc hop).mono ?_); rintro e w2 ⟨rfl, nd, rfl⟩))
    go_end0
    obtain ⟨x1, x2, x3⟩ := R_two (u := .slice A1 (o ++ l).length k1) hR1 hv1 hb1 hne nd false
    simp only [List.length_append] at x1 x2 x3
    refine ⟨rfl, ⟨⟨_, x2, x1⟩, x3⟩, ?_⟩
    exact ((hB.trans hB1).trans ((Below.refl _ _).setCell (p := ⟨Bo, 0, none⟩) (by show w0.heap.size ≤ Bo; exact hn) _)).trans ((pw_below_drewN (Below.refl _ _) nd).setCell (p := ⟨Bp, 0, none⟩) (by show w0.heap.size ≤ Bp; exact hnp) _)
  | true =>
    obtain ⟨N, hN⟩ : ∃ N, (o ++ l).length = N + 1 := ⟨(o ++ l).length - 1, by have := hpos rfl; simp; omega⟩
    have hsl : (rdOf ByteArray.empty (o ++ l) (N : Int)).size + 1 ≤ 9223372036854775807 := by
      have hlt : N < (o ++ l).length := by omega
      have h2 := hsz _ (List.getElem_mem hlt)
      have h3 : rdOf ByteArray.empty (o ++ l) (N : Int) = (o ++ l)[N] := by
        show (o ++ l).getD (N : Int).toNat ByteArray.empty = _
        rw [Int.toNat_natCast, List.getD_eq_getElem?_getD, List.getElem?_eq_getElem hlt]; rfl
      rw [h3]; omega
    obtain ⟨last, hlast⟩ : ∃ s, s = rdOf ByteArray.empty (o ++ l) (N : Int) := ⟨_, rfl⟩
    have hsl2 : (9223372036854775807 < last.size + 1) = False := eq_false (by rw [hlast]; omega)
    have HL := Aside0.mk hlast
    have HN := Aside0.mk hN
    have HSZ := Aside0.mk hsz
    have hNb : N < 1000000 := by rw [List.length_append] at hN; omega
    have hwN : wrap64 (N : Int) = (N : Int) := by unfold wrap64; omega
    clear hlast hN hsz hsl hpos
    go_enter Try.func66, Try.ntmps66
    go_wp2_with (first
      | (at_builtin; refine appN rfl (.tmp 4) (.tmp 5) rfl W w0.heap.size _ o l A0 c0 rfl rfl hR (Kd.C_below hr hB) hW ho ?_
         intro v1 w1 hR1 hB1 hg1
         obtain ⟨g, k1, hv1e, hbg, hgl, cells, hblk⟩ := Kd.R_form hR1 (by rw [HN.out]; omega)
         rw [HN.out] at hv1e
         subst hv1e
         have hv1 := hv.kept hg1 (Kd.R_ne hR hv (by decide))
         have hb1 := hb.kept hg1 (Kd.R_ne hR hb (by decide))
         have hgo : Bo ≠ g := fun e => by rw [← e] at hblk; rw [show w1.heap[Bo]? = _ from hv1] at hblk; cases hblk
         have hgp : Bp ≠ g := fun e => by rw [← e] at hblk; rw [show w1.heap[Bp]? = _ from hb1] at hblk; cases hblk
         obtain ⟨hx1, hx2⟩ := Kd.R_celln ByteArray.empty hR1 (N : Int) (by omega) (by omega)
         rw [← HL.out] at hx1
         simp only [Int.toNat_natCast] at hx1 hx2
         have hX1 : ∀ (nd : Nat) (u : Value) (q : Value), (((w1.setCell ⟨Bo, 0, none⟩ u).drewN nd).setCell ⟨Bp, 0, none⟩ q).cell? ⟨g, N, none⟩ = some (.string last) := fun nd u q => cell_blk3 ((Below.heap_setCell _ ⟨Bp, 0, none⟩ q g (Ne.symm hgp)).trans (Below.heap_setCell w1 ⟨Bo, 0, none⟩ u g (Ne.symm hgo))) hx1
         have hX2 : ∀ (nd : Nat) (u : Value) (q : Value), (((w1.setCell ⟨Bo, 0, none⟩ u).drewN nd).setCell ⟨Bp, 0, none⟩ q).frozen? ⟨g, N, none⟩ = false := fun nd u q => frozen_blk3 ((Below.heap_setCell _ ⟨Bp, 0, none⟩ q g (Ne.symm hgp)).trans (Below.heap_setCell w1 ⟨Bo, 0, none⟩ u g (Ne.symm hgo))) hx2
         have hc1 := hv1.cell
         have hf1 := hv1.frozen
         have hbc1 := hb1.cell
         have hbf1 := hb1.frozen
         have A1_ := Aside0.mk hgo
         have A2_ := Aside0.mk hgp
         have A3_ := Aside0.mk hblk
         have A4_ := Aside0.mk hR1
         have A5_ := Aside0.mk hv1
         have A6_ := Aside0.mk hb1
         have A7_ := Aside0.mk hB1
         have A8_ := Aside0.mk hg1
         clear hgo hgp hblk hR1 hv1 hb1 hB1 hg1 hx1 hx2 hgl hbg)
      | (go_at_call 67; (with_reducible refine (lines_Open.calls _ _ l true _ (Kd.C_below hr ((hB.trans A7_.out).trans ((Below.refl _ _).setCell (p := ⟨Bo, 0, none⟩) (by show w0.heap.size ≤ Bo; exact hn) _))) hc hop).mono ?_); rintro e w2 ⟨rfl, nd, rfl⟩))
    go_end0
    obtain ⟨x1, x2, x3⟩ := R_two (u := .slice (some ⟨g, 0, none⟩) (N + 1) k1) A4_.out A5_.out A6_.out hne nd true
    have hbg : w0.heap.size ≤ g := Kd.R_base A4_.out g (by simp [Value.ownBlock])
    have y1 : Kd.R Kd.string 9 (((((w1.setCell ⟨Bo, 0, none⟩ (.slice (some ⟨g, 0, none⟩) (N + 1) k1)).drewN nd).setCell ⟨Bp, 0, none⟩ (.bool true))).setCell ⟨g, N, none⟩ (.string (last ++ ⟨#[10]⟩))) w0.heap.size (fun _ => True) (.slice (some ⟨g, 0, none⟩) (N + 1) k1) ((o ++ l).set N (last ++ ⟨#[10]⟩)) := Kd.R_putn (enc := Value.string) x1 (N : Int) _
    have e1 : listB o l true = (o ++ l).set N (last ++ ⟨#[10]⟩) := by
      unfold listB
      rw [if_pos rfl, HN.out, Nat.add_sub_cancel, ← HL.out]
    refine ⟨rfl, ⟨⟨_, (Below.heap_setCell _ ⟨g, N, none⟩ _ Bo A1_.out).trans x2, by rw [e1]; exact y1⟩, (Below.heap_setCell _ ⟨g, N, none⟩ _ Bp A2_.out).trans x3⟩, ?_⟩
    exact (((hB.trans A7_.out).trans ((Below.refl _ _).setCell (p := ⟨Bo, 0, none⟩) (by show w0.heap.size ≤ Bo; exact hn) _)).trans ((pw_below_drewN (Below.refl _ _) nd).setCell (p := ⟨Bp, 0, none⟩) (by show w0.heap.size ≤ Bp; exact hnp) _)).setCell (p := ⟨g, N, none⟩) (by show w0.heap.size ≤ g; exact hbg) _
end Go.Proofs.Ytbhfenpccccloaa.M
