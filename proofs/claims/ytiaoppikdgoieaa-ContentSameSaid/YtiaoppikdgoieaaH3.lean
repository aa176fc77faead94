/- content.Parts: the closure that cuts. -/
import Derived.Test.YtiaoppikdgoieaaF0
import Derived.Test.YtiaoppikdgoieaaHand
namespace Go.Proofs.Ytiaoppikdgoieaa.M
open Go.RowKit Go.Proofs.YtiaoppikdgoieaaW.PrintWords Go.Proofs.YtiaoppikdgoieaaW.PrintLast Go.Proofs.YtiaoppikdgoieaaW.PrintMore Go.Proofs.Ytiaoppikdgoieaa.Hand
set_option linter.unusedVariables false
set_option linter.unusedSimpArgs false

/-- Is a span one of a list's places? -/
def spanB (f t : Int) (n : Nat) : Bool := decide (0 ≤ f) && decide (f ≤ t) && decide (t ≤ (n : Int))
def cutL (f t : Int) (l : List ByteArray) : List ByteArray := if spanB f t l.length = true then (l.take t.toNat).drop f.toNat else []

theorem V_any_nil {α : Type} (d : Kd α) (e : Nat) (W : World) (base : Nat) (ok : Nat → Prop) (A : Option Addr) (c : Nat) : Kd.V d e W base ok (.slice A 0 c) [] := ⟨A, c, rfl, Nat.zero_le _, fun W' _ => ⟨rfl, by simp, fun h => absurd h (by simp)⟩⟩
theorem V_mid {d : Kd ByteArray} {e base c lo hi : Nat} {W : World} {ok : Nat → Prop} {A : Option Addr} {n : Nat} {xs : List ByteArray} (hd : d.sz = 1) (h : Kd.V d e W base ok (.slice A n c) xs) (h1 : lo < hi) (h2 : hi ≤ xs.length) (m : Nat) (hm : hi - lo ≤ m) :
    Kd.V d e W base ok (.slice (A.map (fun x => x.add lo)) (hi - lo) m) ((xs.take hi).drop lo) := by
  obtain ⟨hn, hc, hF⟩ := Kd.V_at h
  subst hn
  have hf := Kd.F_mid (lo := lo) (hi := hi) hF (by omega) h2 hc
  rw [if_neg (by omega), hd] at hf
  have hl : ((xs.take hi).drop lo).length = hi - lo := by simp; omega
  simp only [Nat.mul_one] at hf
  exact ⟨_, m, by rw [hl], by omega, hf⟩

set_option maxHeartbeats 1000000 in
set_option maxRecDepth 100000 in
theorem cut49_yes (w : World) (B : Nat) (A0 : Option Addr) (c0 : Nat) (l0 : List ByteArray) (f t : Int) (base : Nat) (P : Nat → Prop)
    (hs : Kd.V Kd.string 9 w base P (.slice A0 l0.length c0) l0) (h : spanB f t l0.length = true) :
    Calls Try.prog 49 #[.slice A0 l0.length c0, .agg #[.int .i64 f, .int .i64 t], .pointer (some ⟨B, 0, none⟩)] w fun e w' => ∃ v, e = .returned v ∧ Kd.V Kd.string 9 w' base P v (cutL f t l0) ∧ w' = w.alloc (.cells #[.int .i64 f, .int .i64 t] 35) := by
  have HS := Aside0.mk hs
  have HL := Aside0.mk (Kd.V_reads' hs).2.2.2.1
  have HC := Aside0.mk (Kd.V_reads' hs).2.1
  have HCUT : Aside0 (cutL f t l0 = (l0.take t.toNat).drop f.toNat) := ⟨by unfold cutL; rw [if_pos h]⟩
  simp only [spanB, Bool.and_eq_true, decide_eq_true_eq] at h
  obtain ⟨⟨h1, h2⟩, h3⟩ := h
  obtain ⟨fn, rfl⟩ := Int.eq_ofNat_of_zero_le h1
  obtain ⟨tn, rfl⟩ := Int.eq_ofNat_of_zero_le (Int.le_trans h1 h2)
  have H2 : Aside0 (fn ≤ tn) := ⟨by omega⟩
  have H3 : Aside0 (tn ≤ l0.length) := ⟨by omega⟩
  have b1 : (tn : Int) ≤ (c0 : Int) := by have := HC.out; omega
  have b2 : (fn : Int) ≤ (tn : Int) := h2
  have d2 : decide ((tn : Int) < (fn : Int)) = false := decide_eq_false (by omega)
  have d2' : decide (tn < fn) = false := decide_eq_false (by omega)
  have d3 : decide ((l0.length : Int) < (tn : Int)) = false := decide_eq_false (by omega)
  have d3' : decide (l0.length < tn) = false := decide_eq_false (by omega)
  have b4 : tn ≤ c0 := by omega
  have b5 : fn ≤ tn := by omega
  clear hs h2 h3 h1
  by_cases hft : tn = fn
  · subst hft
    go_enter Try.func49, Try.ntmps49
    go_wp2
    repeat (go_quiet (fail); try go_wp2)
    go_ret
    refine ⟨_, rfl, ?_, rfl⟩
    rw [HCUT.out, Int.toNat_natCast, List.drop_of_length_le (by simp; omega)]
    exact V_any_nil _ _ _ _ _ _ _
  · have hft2 : ¬ (fn = tn) := fun e => hft e.symm
    have b6 : fn < tn := by omega
    go_enter Try.func49, Try.ntmps49
    go_wp2
    repeat (go_quiet (fail); try go_wp2)
    go_ret
    refine ⟨_, rfl, ?_, rfl⟩
    rw [HCUT.out, Int.toNat_natCast, Int.toNat_natCast]
    exact V_mid rfl (Kd.V_alloc HS.out _) b6 H3.out _ (Nat.le_refl _)

set_option maxHeartbeats 1000000 in
set_option maxRecDepth 100000 in
theorem cut49_no (w : World) (B : Nat) (b : Bool) (A0 : Option Addr) (c0 : Nat) (l0 : List ByteArray) (f t : Int) (hB : w.heap[B]? = some (.cells #[.bool b] 4 (0, 0))) (h : spanB f t l0.length = false) :
    Calls Try.prog 49 #[.slice A0 l0.length c0, .agg #[.int .i64 f, .int .i64 t], .pointer (some ⟨B, 0, none⟩)] w fun e w' => e = .returned (.slice none 0 0) ∧ w' = (w.setCell ⟨B, 0, none⟩ (.bool false)).alloc (.cells #[.int .i64 f, .int .i64 t] 35) := by
  have hc : w.cell? ⟨B, 0, none⟩ = some (.bool b) := blk_cell hB 0
  have hz : w.frozen? ⟨B, 0, none⟩ = false := blk_frozen hB 0
  have hlt : B < w.heap.size := blk_lt hB
  have hc2 : (w.alloc (.cells #[.int .i64 f, .int .i64 t] 35)).cell? ⟨B, 0, none⟩ = some (.bool b) := by rw [World.cell?_alloc_past _ _ _ hlt]; exact hc
  clear hB
  simp only [spanB, Bool.and_eq_false_iff, decide_eq_false_iff_not] at h
  have h' : f < 0 ∨ (0 ≤ f ∧ t < f) ∨ (0 ≤ f ∧ f ≤ t ∧ (l0.length : Int) < t) := by omega
  clear h
  rcases h' with h1 | ⟨h1, h2⟩ | ⟨h1, h2, h3⟩
  · have d1 : decide (f < 0) = true := decide_eq_true h1
    go_enter Try.func49, Try.ntmps49
    go_wp2
    repeat (go_quiet (fail); try go_wp2)
    go_ret
    exact ⟨rfl, rfl⟩
  · have d1 : decide (f < 0) = false := decide_eq_false (by omega)
    have d2 : decide (t < f) = true := decide_eq_true h2
    go_enter Try.func49, Try.ntmps49
    go_wp2
    repeat (go_quiet (fail); try go_wp2)
    go_ret
    exact ⟨rfl, rfl⟩
  · have d1 : decide (f < 0) = false := decide_eq_false (by omega)
    have d2 : decide (t < f) = false := decide_eq_false (by omega)
    have d3 : decide ((l0.length : Int) < t) = true := decide_eq_true h3
    go_enter Try.func49, Try.ntmps49
    go_wp2
    repeat (go_quiet (fail); try go_wp2)
    go_ret
    exact ⟨rfl, rfl⟩

/-- The texts of spans, of sides, side by side; and whether all these are places. -/
def cutsL (sp : List S35) (l : List (List ByteArray)) : List (List ByteArray) := List.zipWith (fun s x => cutL s.f0 s.f1 x) sp l
def spansB (sp : List S35) (l : List (List ByteArray)) : Bool := (List.zipWith (fun s x => spanB s.f0 s.f1 x.length) sp l).all id
theorem cutsL_snoc (sp : List S35) (l : List (List ByteArray)) (i : Nat) (s : S35) (x : List ByteArray) (hs : sp[i]? = some s) (hx : l[i]? = some x) : cutsL (sp.take (i + 1)) (l.take (i + 1)) = cutsL (sp.take i) (l.take i) ++ [cutL s.f0 s.f1 x] := by
  have h1 := (List.getElem?_eq_some_iff.1 hs).1
  have h2 := (List.getElem?_eq_some_iff.1 hx).1
  unfold cutsL
  rw [take_snoc sp i s hs, take_snoc l i x hx, List.zipWith_append (by simp; omega)]
  rfl
theorem spansB_snoc (sp : List S35) (l : List (List ByteArray)) (i : Nat) (s : S35) (x : List ByteArray) (hs : sp[i]? = some s) (hx : l[i]? = some x) : spansB (sp.take (i + 1)) (l.take (i + 1)) = (spansB (sp.take i) (l.take i) && spanB s.f0 s.f1 x.length) := by
  have h1 := (List.getElem?_eq_some_iff.1 hs).1
  have h2 := (List.getElem?_eq_some_iff.1 hx).1
  unfold spansB
  rw [take_snoc sp i s hs, take_snoc l i x hx, List.zipWith_append (by simp; omega)]
  simp
theorem C_span {w : World} {A : Option Addr} {n : Nat} {xs : List S35} (h : Kd.C k35 w A n xs) (i : Nat) (x : S35) (hx : xs[i]? = some x) :
    ∃ ad, A = some ad ∧ w.cell? (ad.add (i * 2)) = some (.int .i64 x.f0) ∧ w.cell? ⟨(ad.add (i * 2)).block, (ad.add (i * 2)).off + 1, none⟩ = some (.int .i64 x.f1) := by
  have hi : i < xs.length := (List.getElem?_eq_some_iff.1 hx).1
  obtain ⟨ad, e, h1, h2⟩ := at_T35 h (i : Int) (by omega) (by have := h.1; omega)
  have hr : rd_T35 xs (i : Int) = x := by unfold rd_T35; rw [Int.toNat_natCast, List.getD_eq_getElem?_getD, hx]; rfl
  rw [hr, Int.toNat_natCast] at h1 h2
  exact ⟨ad, e, h1, h2⟩
end Go.Proofs.Ytiaoppikdgoieaa.M
