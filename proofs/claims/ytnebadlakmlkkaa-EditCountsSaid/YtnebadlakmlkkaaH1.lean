/- edit.pairs, as an iterator: what it hands to the loop's body, in turn. -/
import Derived.RangeFuncNested
import Derived.RangeFuncBound
import Derived.RangeFuncCalls
import Derived.RangeFuncLeaves
import Derived.RangeFuncBox
import Derived.Shelf.Abstract
import Derived.Shelf.RegionOpen
import Derived.WalkKit
import Derived.OwnWalkIn
import Derived.TacticsInMore
import Derived.LoopNIn
import Derived.LoopIn
import Derived.Test.YtnebadlakmlkkaaHand
import Derived.Test.YtnebadlakmlkkaaF0
namespace Go.Proofs.Ytnebadlakmlkkaa.M
open Go.RowKit Go.Shelf Go.Proofs Go.Proofs.Ytnebadlakmlkkaa.Hand Go.Proofs.YtnebadlakmlkkaaW.PrintWords Go.Proofs.YtnebadlakmlkkaaW.PrintLast Go.Proofs.YtnebadlakmlkkaaW.PrintMore
attribute [local go_sem] Oper.semAt_some
set_option linter.unusedVariables false
set_option linter.unusedSimpArgs false

/-- The pairs of a match, from place i on. -/
def prsL (i : Nat) : List Int → List (Int × Int)
  | [] => []
  | j :: t => if j ≥ 0 then ((i : Int), j) :: prsL (i + 1) t else prsL (i + 1) t
theorem prsL_snoc (a : List Int) (j : Int) : ∀ i, prsL i (a ++ [j]) = prsL i a ++ (if j ≥ 0 then [(((i + a.length : Nat) : Int), j)] else []) := by
  induction a with
  | nil => intro i; simp [prsL]
  | cons b a ih =>
    intro i
    have e : i + 1 + a.length = i + (a.length + 1) := by omega
    simp only [List.cons_append, prsL, ih, List.length_cons, e]
    split <;> simp
theorem prsL_len (a : List Int) : ∀ i, (prsL i a).length ≤ a.length := by
  induction a with
  | nil => intro i; simp [prsL]
  | cons b a ih =>
    intro i
    have := ih (i + 1)
    simp only [prsL]
    split <;> simp <;> omega
theorem prsL_prefix (a b : List Int) : ∀ i, prsL i a <+: prsL i (a ++ b) := by
  induction a with
  | nil => intro i; simp [prsL]
  | cons x a ih =>
    intro i
    simp only [List.cons_append, prsL]
    split
    · exact (List.cons_prefix_cons).2 ⟨rfl, ih (i + 1)⟩
    · exact ih (i + 1)
def prs (zs : List Int) (n : Int) : List (Int × Int) := prsL 0 zs ++ [((zs.length : Int), n)]
abbrev encP (p : Int × Int) : Array Value := #[.int .i64 p.1, .int .i64 p.2]
theorem C_int {w : World} {A : Option Addr} {n : Nat} {xs : List Int} (h : Kd.C (Kd.int .i64) w A n xs) (i : Nat) (x : Int) (hx : xs[i]? = some x) :
    ∃ ad, A = some ad ∧ w.cell? (ad.add i) = some (.int .i64 x) := by
  have hi : i < xs.length := (List.getElem?_eq_some_iff.1 hx).1
  obtain ⟨ad, c, e, _, hK, hc0⟩ := Kd.C_get h (0 : Int) (i : Int) (by omega) (by have := h.1; omega)
  refine ⟨ad, e, ?_⟩
  rw [show xs.getD ((i : Int)).toNat 0 = x from by simp [List.getD_eq_getElem?_getD, hx]] at hK
  have : c = [.int .i64 x] := hK
  subst this
  have e1 : (Kd.int .i64).sz = 1 := rfl
  simpa [e1] using hc0 0 _ rfl

/-- What a round of the loop keeps: what lay below n₀, and the iterator's two boxes. -/
def KpP (n₀ Bs Bn : Nat) (A B : World) : Prop := Below n₀ A B ∧ ∀ k, k = Bs ∨ k = Bn → B.heap[k]? = A.heap[k]?
theorem KpP.trans {n₀ Bs Bn : Nat} {A B C : World} (h : KpP n₀ Bs Bn A B) (h' : KpP n₀ Bs Bn B C) : KpP n₀ Bs Bn A C := ⟨h.1.trans h'.1, fun k hk => (h'.2 k hk).trans (h.2 k hk)⟩
theorem KpP.refl (n₀ Bs Bn : Nat) (A : World) : KpP n₀ Bs Bn A A := ⟨Below.refl _ _, fun _ _ => rfl⟩
theorem KpP.box {n₀ Bs Bn k : Nat} {A B : World} (h : KpP n₀ Bs Bn A B) (hk : k = Bs ∨ k = Bn) : B.cell? ⟨k, 0, none⟩ = A.cell? ⟨k, 0, none⟩ := by
  have := h.2 k hk
  simp only [World.cell?]
  rw [show B.heap[k]? = A.heap[k]? from this]
theorem KpP.put {n₀ Bs Bn : Nat} {w : World} (h1 : n₀ ≤ w.heap.size) (h2 : Bs < w.heap.size) (h3 : Bn < w.heap.size) (W : World) (l : Nat) (o o' : Obj) (hl : w.heap.size ≤ l) (h : W.heap[l]? = some o) (hc : o.isCells = false) (hw : o.isWalk = false) : KpP n₀ Bs Bn W (W.putObj l o') :=
  ⟨belowK_b h1 W l o o' hl h hc hw, fun k hk => World.putObj_heap_other (by omega)⟩

set_option maxRecDepth 100000 in
set_option maxHeartbeats 4000000 in
/-- The closure of edit.pairs: for every loop's body that keeps what lay below n₀. -/
theorem pairs1_in (F : Fence) (n : Nat) (h7 : F.fn 47) (hro : F.round = none) (hn : 1 ≤ n) (l Bs Bn n₀ : Nat) (A : Option Addr) (c : Nat) (zs : List Int) (m : Int) (hlen : zs.length ≤ 2000) (J Jx : List (Int × Int) → World → Prop)
    (hY : ∀ pre x W, J pre W → pre.length < zs.length + 1 → YieldAt F (n - 1) Try.prog l (encP x) W fun e W' =>
      (e = .returned (.bool true) ∧ J (pre ++ [x]) W' ∧ KpP n₀ Bs Bn W W') ∨ (e = .returned (.bool false) ∧ Jx (pre ++ [x]) W'))
    (W : World) (hc1 : W.cell? ⟨Bs, 0, none⟩ = some (.slice A zs.length c)) (hc2 : W.cell? ⟨Bn, 0, none⟩ = some (.int .i64 m)) (hz : ∀ i x, zs[i]? = some x → ∃ ad, A = some ad ∧ ad.block < n₀ ∧ W.cell? (ad.add i) = some (.int .i64 x)) (hcap : zs.length ≤ c) (h0 : J [] W) :
    CallsIn F n Try.prog 47 #[.func (.yield l) #[] #[], .pointer (some ⟨Bs, 0, none⟩), .pointer (some ⟨Bn, 0, none⟩)] W fun e W' => (∃ v, e = .returned v) ∧
      ((∃ ys, ys = prs zs m ∧ J ys W') ∨ (∃ pre, pre <+: prs zs m ∧ Jx pre W')) := by
  refine callsIn_of_wp Try.func47 rfl h7 ?_ hro
  simp only [Try.ntmps47, List.size_toArray, List.length_cons, List.length_nil, Nat.reduceAdd, Nat.reduceSub, Array.replicate_succ, Array.replicate_zero, List.push_toArray, List.append_toArray, List.nil_append, List.cons_append]
  gi_wp2
  gi_loopw [8] (fun i wr => ∃ k : Nat, k ≤ zs.length ∧ i = .int .i64 k ∧ J (prsL 0 (zs.take k)) wr ∧ KpP n₀ Bs Bn W wr)
    (fun i _ => zs.length - (intOf i).toNat)
  case atStart => exact ⟨0, Nat.zero_le _, rfl, h0, KpP.refl _ _ _ _⟩
  case round =>
    obtain ⟨k, hk, rfl, hJs, hnx⟩ := hrel
    have hpl : (prsL 0 (zs.take k)).length ≤ k := Nat.le_trans (prsL_len _ _) (by simp; omega)
    by_cases hlt : k < zs.length
    · obtain ⟨ad, rfl, hadb, hcell⟩ := hz k zs[k] (List.getElem?_eq_getElem hlt)
      have hcx : wr.cell? (ad.add k) = some (.int .i64 zs[k]) := (hnx.1.cell (p := ad.add k) (by unfold Addr.add; split <;> exact hadb)).trans hcell
      have hsn := prsL_snoc (zs.take k) zs[k] 0
      rw [← take_snoc zs k _ (List.getElem?_eq_getElem hlt)] at hsn
      have hmin : 0 + (zs.take k).length = k := by simp; omega
      rw [hmin] at hsn
      have hpre : prsL 0 (zs.take (k + 1)) <+: prs zs m := by
        unfold prs
        refine List.IsPrefix.trans ?_ (List.prefix_append _ _)
        conv => rhs; rw [← List.take_append_drop (k + 1) zs]
        exact prsL_prefix _ _ _
      by_cases hj : zs[k] ≥ 0
      · rw [if_pos hj] at hsn
        obtain ⟨fn, tmps, assign, body, hy, hR⟩ := hY _ ((k : Int), zs[k]) wr hJs (by omega)
        dsimp only [encP] at hy
        have hj' : (decide ((0 : Int) ≤ zs[k])) = true := decide_eq_true hj
        gi_wp2
        refine hR.mono ?_
        rintro e W3 (⟨rfl, hJ3, hk3⟩ | ⟨rfl, hJx3⟩)
        · gi_wp2
          go_roundw
          case rel => exact ⟨k + 1, by omega, by simp, by rw [hsn]; exact hJ3, hnx.trans hk3⟩
          case measure => simp [intOf]; omega
        · gi_wp2
          refine bodyPost_ret (results_none rfl _ _ _) rfl ?_
          exact ⟨⟨_, rfl⟩, .inr ⟨_, by rw [← hsn]; exact hpre, hJx3⟩⟩
      · rw [if_neg hj, List.append_nil] at hsn
        gi_wp2
        refine ⟨fun _ h => (by cases h), ?_⟩
        gi_wp2
        go_roundw
        case rel => exact ⟨k + 1, by omega, by simp, by rw [hsn]; exact hJs, hnx⟩
        case measure => simp [intOf]; omega
    · obtain rfl : k = zs.length := by omega
      have hc1' : wr.cell? ⟨Bs, 0, none⟩ = some (.slice A zs.length c) := (hnx.box (.inl rfl)).trans hc1
      have hc2' : wr.cell? ⟨Bn, 0, none⟩ = some (.int .i64 m) := (hnx.box (.inr rfl)).trans hc2
      rw [List.take_length] at hJs hpl
      obtain ⟨fn, tmps, assign, body, hy, hR⟩ := hY _ ((zs.length : Int), m) wr hJs (by omega)
      dsimp only [encP] at hy
      gi_wp2
      refine hR.mono ?_
      rintro e W3 (⟨rfl, hJ3, hk3⟩ | ⟨rfl, hJx3⟩)
      · gi_wp2
        go_end0
        exact ⟨⟨_, rfl⟩, .inl ⟨_, rfl, hJ3⟩⟩
      · gi_wp2
        go_end0
        exact ⟨⟨_, rfl⟩, .inr ⟨_, List.prefix_rfl, hJx3⟩⟩
end Go.Proofs.Ytnebadlakmlkkaa.M
