/- edit.Match's closure 'keep': what it tells, and what it leaves in the four variables that it shares. -/
import Derived.Test.YtnebadlakmlkkaaH1
import Derived.Maps.OwnIn
namespace Go.Proofs.Ytnebadlakmlkkaa.M
open Go.RowKit Go.Shelf Go.Proofs Go.Proofs.Ytnebadlakmlkkaa.Hand Go.Proofs.YtnebadlakmlkkaaW.PrintWords Go.Proofs.YtnebadlakmlkkaaW.PrintLast Go.Proofs.YtnebadlakmlkkaaW.PrintMore
attribute [local go_sem] Oper.semAt_some
set_option linter.unusedVariables false
set_option linter.unusedSimpArgs false

theorem infoI : (Try.prog.info? 3).map (fun i => (i.zero, i.size, i.bytes)) = some (some (.int .i64 0), 1, 8) := by kernel_rfl
/-- d places more, paired in turn from y on. -/
def runK : Nat → List Int → Int → List Int × Int
  | 0, o, y => (o, y)
  | d + 1, o, y => runK d (o ++ [y]) (wrap64 (y + 1))
theorem runK_len (d : Nat) : ∀ o y, (runK d o y).1.length = o.length + d := by
  induction d with
  | zero => intro o y; rfl
  | succ d ih => intro o y; simp only [runK, ih]; simp; omega
/-- May it be kept up to t, and e? -/
def okK (m n : Int) (o : List Int) (y t e : Int) : Bool := decide (t ≥ (o.length : Int)) && (decide (t ≤ m) && (decide (e ≤ n) && decide (wrap64 (e - y) = wrap64 (t - (o.length : Int)))))
def keepG (m n : Int) (o : List Int) (y t e : Int) : List Int × Int := if okK m n o y t e = true then runK (t.toNat - o.length) o y else (o, y)
/-- Blocks of other types than int and []int lie as they lay. -/
def K3 (A B : World) : Prop := ∀ (k : Nat) (cs : Array Value) (t : TypeId), A.heap[k]? = some (Obj.cells cs t (0, 0)) → t ≠ 3 → t ≠ 26 → B.heap[k]? = some (Obj.cells cs t (0, 0))
theorem K3.refl (A : World) : K3 A A := fun _ _ _ h _ _ => h
theorem K3.trans {A B C : World} (h : K3 A B) (h' : K3 B C) : K3 A C := fun k cs t hk h1 h2 => h' k cs t (h k cs t hk h1 h2) h1 h2
theorem K3.alloc {A B : World} (h : K3 A B) (o : Obj) : K3 A (B.alloc o) := fun k cs t hk h1 h2 => by
  have := h k cs t hk h1 h2
  exact (Below.heap_alloc B o k (Array.getElem?_eq_some_iff.1 this).1).trans this
theorem K3.grown {A B C : World} (h : K3 A B) {row : Option Nat} (hg : B.grownBy C row) (hr : ∀ k, row = some k → ∃ (cs : Array Value) (t : TypeId), B.heap[k]? = some (Obj.cells cs t (0, 0)) ∧ (t = 3 ∨ t = 26)) : K3 A C := fun k cs t hk h1 h2 => by
  have hb := h k cs t hk h1 h2
  refine (hg.block k (Array.getElem?_eq_some_iff.1 hb).1 fun e => ?_).trans hb
  obtain ⟨cs', t', hb', ht'⟩ := hr k e.symm
  rw [hb] at hb'
  cases hb'
  rcases ht' with rfl | rfl
  · exact h1 rfl
  · exact h2 rfl
theorem K3.set {A B : World} (h : K3 A B) {b : Nat} {v0 : Value} {t : TypeId} (hb : Boxed B b t v0) (ht : t = 3 ∨ t = 26) (v : Value) : K3 A (B.setCell ⟨b, 0, none⟩ v) :=
  h.grown (grownBy_setCell' B b v) (fun k e => by cases e; exact ⟨_, _, hb, ht⟩)
/-- The four variables that the closure shares. -/
def VarsK (n₀ Bo Bm Bn By : Nat) (W : World) (o : List Int) (y m n : Int) : Prop :=
  (∃ v, Boxed W Bo 26 v ∧ W.ownsRow n₀ 3 1 v o.length (o.map (Value.int .i64)) ∧ v.ownBlock ≠ some Bm ∧ v.ownBlock ≠ some Bn ∧ v.ownBlock ≠ some By) ∧ Boxed W Bm 3 (.int .i64 m) ∧ Boxed W Bn 3 (.int .i64 n) ∧ Boxed W By 3 (.int .i64 y)
def lenAt (W : World) (b : Nat) : Nat := match W.cell? ⟨b, 0, none⟩ with | some (.slice _ n _) => n | _ => 0
theorem ownsRow_slice {W : World} {base : Nat} {e : TypeId} {size : Nat} {v : Value} {k : Nat} {xs : List Value} (h : W.ownsRow base e size v k xs) : ∃ A c, v = .slice A k c := by
  rcases h.2 with ⟨rfl, h0⟩ | ⟨g, cap, cur, rfl, _⟩
  · exact ⟨none, 0, by rw [h0]⟩
  · exact ⟨_, _, rfl⟩

theorem lenAt_of {n₀ Bo Bm Bn By : Nat} {W : World} {o : List Int} {y m n : Int} (h : VarsK n₀ Bo Bm Bn By W o y m n) : lenAt W Bo = o.length := by
  obtain ⟨⟨v, hv, hrow, _⟩, _⟩ := h
  obtain ⟨A, c, rfl⟩ := ownsRow_slice hrow
  simp [lenAt, hv.cell]
theorem row_ne {W : World} {tmp : Obj} {v v' : Value} {B : Nat} {t : TypeId} {u : Value} (hb : Boxed W B t u) (h : v.ownBlock ≠ some B) (hat : v'.ownBlock = v.ownBlock ∨ v'.ownBlock = some (W.alloc tmp).heap.size) : v'.ownBlock ≠ some B := by
  rcases hat with e | e
  · rw [e]; exact h
  · rw [e]
    intro c
    have := hb.lt
    simp at c
    omega
/-- Behind 'out = append(out, u)': the box Bo holds the longer row; the other three lie as they lay. -/
theorem vk_app {n₀ Bo Bm Bn By : Nat} {W w1 : World} {o : List Int} {y m n u : Int} {tmp : Obj} {v v' : Value} (hn : n₀ ≤ Bo) (hn2 : n₀ ≤ W.heap.size)
    (hv : Boxed W Bo 26 v) (hrow : W.ownsRow n₀ 3 1 v o.length (o.map (Value.int .i64))) (h1 : v.ownBlock ≠ some Bm) (h2 : v.ownBlock ≠ some Bn) (h3 : v.ownBlock ≠ some By)
    (hm : Boxed W Bm 3 (.int .i64 m)) (hnn : Boxed W Bn 3 (.int .i64 n)) (hy : Boxed W By 3 (.int .i64 y)) (d1 : Bo ≠ Bm) (d2 : Bo ≠ Bn) (d3 : Bo ≠ By)
    (hown' : w1.ownsRow n₀ 3 1 v' (o.length + 1) (o.map (Value.int .i64) ++ [.int .i64 u])) (hgrow : (W.alloc tmp).grownBy w1 v.ownBlock) (hat : v'.ownBlock = v.ownBlock ∨ v'.ownBlock = some (W.alloc tmp).heap.size) :
    Boxed w1 Bo 26 v ∧ VarsK n₀ Bo Bm Bn By (w1.setCell ⟨Bo, 0, none⟩ v') (o ++ [u]) y m n ∧ Below n₀ W (w1.setCell ⟨Bo, 0, none⟩ v') ∧ K3 W (w1.setCell ⟨Bo, 0, none⟩ v') := by
  obtain ⟨a1, a2, a3, _, a5⟩ := hv.appended (by decide) hrow hn2 hn hown' hgrow
  refine ⟨a1, ⟨⟨v', a2, by simpa using a3, row_ne hm h1 hat, row_ne hnn h2 hat, row_ne hy h3 hat⟩, ((hm.alloc tmp).kept hgrow h1.symm).other d1.symm _, ((hnn.alloc tmp).kept hgrow h2.symm).other d2.symm _, ((hy.alloc tmp).kept hgrow h3.symm).other d3.symm _⟩, a5, ?_⟩
  refine K3.set (K3.grown ((K3.refl W).alloc tmp) hgrow fun k e => ?_) a1 (.inr rfl) v'
  rcases (hrow.alloc tmp).2 with ⟨rfl, _⟩ | ⟨g, cap, cur, rfl, _, hgb, _⟩
  · simp [Value.ownBlock] at e
  · obtain rfl : g = k := by simpa [Value.ownBlock] using e
    exact ⟨_, _, hgb, .inl rfl⟩
/-- Behind 'y = y2'. -/
theorem vk_y {n₀ Bo Bm Bn By : Nat} {W : World} {o : List Int} {y m n : Int} (h : VarsK n₀ Bo Bm Bn By W o y m n) (hn : n₀ ≤ By) (d1 : By ≠ Bm) (d2 : By ≠ Bn) (d3 : By ≠ Bo) (y2 : Int) :
    VarsK n₀ Bo Bm Bn By (W.setCell ⟨By, 0, none⟩ (.int .i64 y2)) o y2 m n ∧ Below n₀ W (W.setCell ⟨By, 0, none⟩ (.int .i64 y2)) ∧ K3 W (W.setCell ⟨By, 0, none⟩ (.int .i64 y2)) := by
  obtain ⟨⟨v, hv, hrow, h1, h2, h3⟩, hm, hnn, hy⟩ := h
  exact ⟨⟨⟨v, hv.other d3.symm _, hrow.kept (grownBy_setCell' W By _) (.inr h3), h1, h2, h3⟩, hm.other d1.symm _, hnn.other d2.symm _, hy.set _⟩, (Below.refl n₀ W).setCell (p := ⟨By, 0, none⟩) hn _, (K3.refl W).set hy (.inl rfl) _⟩

set_option maxRecDepth 100000 in
set_option maxHeartbeats 8000000 in
theorem keep_in (F : Fence) (nf : Nat) (h7 : F.fn 37) (hro : F.round = none) (n₀ Bo Bm Bn By : Nat) (hn1 : n₀ ≤ Bo) (hn2 : n₀ ≤ By) (d1 : Bo ≠ Bm) (d2 : Bo ≠ Bn) (d3 : Bo ≠ By) (d4 : By ≠ Bm) (d5 : By ≠ Bn) (o : List Int) (y m n t e : Int) (hm : m ≤ 2000) (w : World) (hw : n₀ ≤ w.heap.size) (h : VarsK n₀ Bo Bm Bn By w o y m n) :
    CallsIn F nf Try.prog 37 #[.int .i64 t, .int .i64 e, .pointer (some ⟨Bo, 0, none⟩), .pointer (some ⟨Bm, 0, none⟩), .pointer (some ⟨Bn, 0, none⟩), .pointer (some ⟨By, 0, none⟩)] w fun en w' => en = .returned (.bool (okK m n o y t e)) ∧ VarsK n₀ Bo Bm Bn By w' (keepG m n o y t e).1 (keepG m n o y t e).2 m n ∧ Below n₀ w w' ∧ K3 w w' := by
  have HV := Aside0.mk h
  obtain ⟨⟨v, hv, hrow, h1, h2, h3⟩, hmb, hnb, hyb⟩ := h
  have hvc := hv.cell
  have hmc := hmb.cell
  have hnc := hnb.cell
  have hyc := hyb.cell
  obtain ⟨A, c, rfl⟩ := ownsRow_slice hrow
  refine callsIn_of_wp Try.func37 rfl h7 ?_ hro
  simp only [Try.ntmps37, List.size_toArray, List.length_cons, List.length_nil, Nat.reduceAdd, Nat.reduceSub, Array.replicate_succ, Array.replicate_zero, List.push_toArray, List.append_toArray, List.nil_append, List.cons_append]
  have hok1 : (o.length : Int) ≤ t → t ≤ m → e ≤ n → okK m n o y t e = (wrap64 (e - y) == t - (o.length : Int)) := fun a b c => by
    have hw : wrap64 (t - (o.length : Int)) = t - (o.length : Int) := by unfold wrap64; omega
    unfold okK
    rw [hw, decide_eq_true (show t ≥ (o.length : Int) from a), decide_eq_true b, decide_eq_true c]
    simp only [Bool.true_and]
    rfl
  have hok2 : okK m n o y t e = true → (o.length : Int) ≤ t ∧ t ≤ m := fun a => by
    simp only [okK, Bool.and_eq_true, decide_eq_true_eq] at a
    exact ⟨a.1, a.2.1⟩
  have hokn : (n < e ∨ m < t ∨ t < (o.length : Int)) → okK m n o y t e = false := fun a => by
    rw [Bool.eq_false_iff]
    intro c
    simp only [okK, Bool.and_eq_true, decide_eq_true_eq] at c
    omega
  have HOK1 := Aside0.mk hok1
  have HOK2 := Aside0.mk hok2
  have HOKN := Aside0.mk hokn
  clear hok1 hok2 hokn
  gi_wp2
  · rw [← HOK1.out (by assumption) (by assumption) (by assumption)]
    gi_loopw [34] (fun p wr => ∃ o' y', VarsK n₀ Bo Bm Bn By wr o' y' m n ∧ Below n₀ w wr ∧ K3 w wr ∧ Aside0 (okK m n o y t e = true → o'.length ≤ t.toNat ∧ runK (t.toNat - o'.length) o' y' = runK (t.toNat - o.length) o y) ∧ Aside0 (okK m n o y t e = false → o' = o ∧ y' = y)) (fun _ wr => t.toNat - lenAt wr Bo)
    case atStart =>
      exact ⟨o, y, HV.out, Below.refl _ _, K3.refl _, ⟨fun a => ⟨by have := HOK2.out a; omega, rfl⟩⟩, ⟨fun _ => ⟨rfl, rfl⟩⟩⟩
    case round =>
      obtain ⟨o', y', hV, hB', hK', hT, hF⟩ := hrel
      have HV2 := Aside0.mk hV
      obtain ⟨⟨v2, hv2, hrow2, q1, q2, q3⟩, hmb2, hnb2, hyb2⟩ := hV
      have hvc2 := hv2.cell
      have hvf2 := hv2.frozen
      have hyc2 := hyb2.cell
      have hyf2 := hyb2.frozen
      obtain ⟨A2, c2, rfl⟩ := ownsRow_slice hrow2
      rcases Bool.eq_false_or_eq_true (okK m n o y t e) with hok | hok
      case inr =>
        rw [hok]
        have HO := Aside0.mk hok
        clear hok
        gi_wp2
        go_ret
        obtain ⟨rfl, rfl⟩ := hF.out HO.out
        refine ⟨by rw [HO.out]; rfl, ?_, hB', hK'⟩
        unfold keepG
        rw [HO.out, if_neg (by decide)]
        exact HV2.out
      case inl =>
        rw [hok]
        have HO := Aside0.mk hok
        clear hok
        obtain ⟨ht, hr⟩ := hT.out HO.out
        obtain ⟨ho1, ho2⟩ := HOK2.out HO.out
        by_cases hlt : (o'.length : Int) < t
        · obtain ⟨i0, hi, hz0, hz1, hz2⟩ := info_parts infoI
          gi_wp2_with (first
            | (gi_at_builtin; (refine wpListIn_append_own_at _ rfl _ _ 26 rfl n₀ 3 i0 (.int .i64 0) 1 8 Try.underlying26 hi hz0 hz1 hz2 rfl (by decide) _ _ _ rfl (hrow2.alloc _) ⟨wr.heap.size, 0, none⟩ 1 1 [.int .i64 y'] rfl rfl (cell_one_new _ _ _) (by simp [Value.oneCell']) (by unfold maxLen; omega) (by omega) (by have := hB'.size; simp; omega) ?_)
               intro v' w1 hown' hgrow _ hat
               obtain ⟨g', cap', rfl⟩ := ownsRow_succ hown'
               obtain ⟨a1, a2, a3, a4⟩ := vk_app hn1 (by have := hB'.size; omega) hv2 hrow2 q1 q2 q3 hmb2 hnb2 hyb2 d1 d2 d3 hown' hgrow hat
               have hc1 := a1.cell
               have hf1 := a1.frozen
               have hyc3 := a2.2.2.2.cell
               have hyf3 := a2.2.2.2.frozen))
          obtain ⟨b1, b2, b3⟩ := vk_y a2 hn2 d4 d5 d3.symm (wrap64 (y' + 1))
          refine ⟨⟨o' ++ [y'], wrap64 (y' + 1), b1, hB'.trans (a3.trans b2), hK'.trans (a4.trans b3), ⟨fun _ => ⟨by simp; omega, ?_⟩⟩, ⟨fun c => ?_⟩⟩, ?_⟩
          · rw [← hr, show t.toNat - o'.length = (t.toNat - (o' ++ [y']).length) + 1 from by simp; omega]
            rfl
          · cases c
          · rw [lenAt_of b1, lenAt_of HV2.out]
            simp
            omega
        · gi_wp2
          go_ret
          have e0 : t.toNat - o'.length = 0 := by omega
          rw [e0] at hr
          refine ⟨by rw [HO.out]; rfl, ?_, hB', hK'⟩
          unfold keepG
          rw [HO.out, if_pos rfl, ← hr]
          exact HV2.out
  all_goals
    have hok := HOKN.out (by omega)
    gi_loopw [34] (fun p wr => VarsK n₀ Bo Bm Bn By wr o y m n ∧ Below n₀ w wr ∧ K3 w wr) (fun _ wr => 0)
    case atStart => exact ⟨HV.out, Below.refl _ _, K3.refl _⟩
    case round =>
      obtain ⟨hV, hB', hK'⟩ := hrel
      have HV2 := Aside0.mk hV
      clear hV
      gi_wp2
      go_ret
      refine ⟨by rw [hok]; rfl, ?_, hB', hK'⟩
      unfold keepG
      rw [hok, if_neg (by decide)]
      exact HV2.out
end Go.Proofs.Ytnebadlakmlkkaa.M
