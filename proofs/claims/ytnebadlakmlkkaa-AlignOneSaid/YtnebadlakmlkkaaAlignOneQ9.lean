/- Texts of the claim AlignOne, put together (part 9): edit.pairs, as an iterator: what it hands to the loop's body, in turn. edit.Changes: what it computes, and that the machine's call does so. -/
import Derived.ArgAppend
import Derived.Below
import Derived.BigQuiet
import Derived.Deep.AppendLies
import Derived.Deep.CutBlock
import Derived.Deep.DeepCutAuto
import Derived.Deep.Draws
import Derived.Deep.LoopGhost
import Derived.Deep.OwnRows
import Derived.Deep.QuietTactic
import Derived.Deep.RegionHeld3
import Derived.KernelRfl
import Derived.Laws.BitsLemmas
import Derived.Laws.BytesArg
import Derived.Laws.IdiomCopy
import Derived.Laws.MakeOwn
import Derived.Laws.OwnMore
import Derived.Laws.Rows
import Derived.Laws.Slices
import Derived.Laws.StructEq
import Derived.Lib.AppendStr
import Derived.Lib.ConvBytes
import Derived.LoopIn
import Derived.LoopNIn
import Derived.Maps.AppendAt
import Derived.OrdersHeld
import Derived.OwnWalk
import Derived.OwnWalkIn
import Derived.RangeFuncBound
import Derived.RangeFuncBox
import Derived.RangeFuncCalls
import Derived.RangeFuncLeaves
import Derived.RangeFuncNested
import Derived.RowKit
import Derived.RowKit3
import Derived.Shelf.Abstract
import Derived.Shelf.RegionOpen
import Derived.Tactics
import Derived.TacticsInMore
import Derived.Test.YtnebadlakmlkkaaProg
import Derived.WalkKit
import Derived.WideLaws
import Derived.Test.YtnebadlakmlkkaaAlignOneQ8
namespace Go.Proofs.Ytnebadlakmlkkaa.M
open Go.RowKit Go.Shelf Go.Proofs Go.Proofs.Ytnebadlakmlkkaa.Hand Go.Proofs.YtnebadlakmlkkaaW.PrintWords Go.Proofs.YtnebadlakmlkkaaW.PrintLast Go.Proofs.YtnebadlakmlkkaaW.PrintMore
attribute [local go_sem] Oper.semAt_some
set_option linter.unusedVariables false
set_option linter.unusedSimpArgs false

/-- The pairs of a match, from place i on. -/
def prsL (i : Nat) : List Int → List (Int × Int)
  | [] => []
  | j :: t => if j ≥ 0 then ((i : Int), j) :: prsL (i + 1) t else prsL (i + 1) t
theorem prsL_snoc (a : List Int) (j : Int) : ∀ i, prsL i (a ++ [j]) = prsL i a ++ (if j ≥ 0 then [(((i + a.length : Nat) : Int), j)] else []) := by
  induction a with
  | nil => intro i; simp [prsL]
  | cons b a ih =>
    intro i
    have e : i + 1 + a.length = i + (a.length + 1) := by omega
    simp only [List.cons_append, prsL, ih, List.length_cons, e]
    split <;> simp
theorem prsL_len (a : List Int) : ∀ i, (prsL i a).length ≤ a.length := by
  induction a with
  | nil => intro i; simp [prsL]
  | cons b a ih =>
    intro i
    have := ih (i + 1)
    simp only [prsL]
    split <;> simp <;> omega
theorem prsL_prefix (a b : List Int) : ∀ i, prsL i a <+: prsL i (a ++ b) := by
  induction a with
  | nil => intro i; simp [prsL]
  | cons x a ih =>
    intro i
    simp only [List.cons_append, prsL]
    split
    · exact (List.cons_prefix_cons).2 ⟨rfl, ih (i + 1)⟩
    · exact ih (i + 1)
def prs (zs : List Int) (n : Int) : List (Int × Int) := prsL 0 zs ++ [((zs.length : Int), n)]
abbrev encP (p : Int × Int) : Array Value := #[.int .i64 p.1, .int .i64 p.2]
theorem C_int {w : World} {A : Option Addr} {n : Nat} {xs : List Int} (h : Kd.C (Kd.int .i64) w A n xs) (i : Nat) (x : Int) (hx : xs[i]? = some x) :
    ∃ ad, A = some ad ∧ w.cell? (ad.add i) = some (.int .i64 x) := by
  have hi : i < xs.length := (List.getElem?_eq_some_iff.1 hx).1
  obtain ⟨ad, c, e, _, hK, hc0⟩ := Kd.C_get h (0 : Int) (i : Int) (by omega) (by have := h.1; omega)
  refine ⟨ad, e, ?_⟩
  rw [show xs.getD ((i : Int)).toNat 0 = x from by simp [List.getD_eq_getElem?_getD, hx]] at hK
  have : c = [.int .i64 x] := hK
  subst this
  have e1 : (Kd.int .i64).sz = 1 := rfl
  simpa [e1] using hc0 0 _ rfl

/-- What a round of the loop keeps: what lay below n₀, and the iterator's two boxes. -/
def KpP (n₀ Bs Bn : Nat) (A B : World) : Prop := Below n₀ A B ∧ ∀ k, k = Bs ∨ k = Bn → B.heap[k]? = A.heap[k]?
theorem KpP.trans {n₀ Bs Bn : Nat} {A B C : World} (h : KpP n₀ Bs Bn A B) (h' : KpP n₀ Bs Bn B C) : KpP n₀ Bs Bn A C := ⟨h.1.trans h'.1, fun k hk => (h'.2 k hk).trans (h.2 k hk)⟩
theorem KpP.refl (n₀ Bs Bn : Nat) (A : World) : KpP n₀ Bs Bn A A := ⟨Below.refl _ _, fun _ _ => rfl⟩
theorem KpP.box {n₀ Bs Bn k : Nat} {A B : World} (h : KpP n₀ Bs Bn A B) (hk : k = Bs ∨ k = Bn) : B.cell? ⟨k, 0, none⟩ = A.cell? ⟨k, 0, none⟩ := by
  have := h.2 k hk
  simp only [World.cell?]
  rw [show B.heap[k]? = A.heap[k]? from this]
theorem KpP.put {n₀ Bs Bn : Nat} {w : World} (h1 : n₀ ≤ w.heap.size) (h2 : Bs < w.heap.size) (h3 : Bn < w.heap.size) (W : World) (l : Nat) (o o' : Obj) (hl : w.heap.size ≤ l) (h : W.heap[l]? = some o) (hc : o.isCells = false) (hw : o.isWalk = false) : KpP n₀ Bs Bn W (W.putObj l o') :=
  ⟨belowK_b h1 W l o o' hl h hc hw, fun k hk => World.putObj_heap_other (by omega)⟩

set_option maxRecDepth 100000 in
set_option maxHeartbeats 4000000 in
/-- The closure of edit.pairs: for every loop's body that keeps what lay below n₀. -/
theorem pairs1_in (F : Fence) (n : Nat) (h7 : F.fn 47) (hro : F.round = none) (hn : 1 ≤ n) (l Bs Bn n₀ : Nat) (A : Option Addr) (c : Nat) (zs : List Int) (m : Int) (hlen : zs.length ≤ 2000) (J Jx : List (Int × Int) → World → Prop)
    (hY : ∀ pre x W, J pre W → pre.length < zs.length + 1 → YieldAt F (n - 1) Try.prog l (encP x) W fun e W' =>
      (e = .returned (.bool true) ∧ J (pre ++ [x]) W' ∧ KpP n₀ Bs Bn W W') ∨ (e = .returned (.bool false) ∧ Jx (pre ++ [x]) W'))
    (W : World) (hc1 : W.cell? ⟨Bs, 0, none⟩ = some (.slice A zs.length c)) (hc2 : W.cell? ⟨Bn, 0, none⟩ = some (.int .i64 m)) (hz : ∀ i x, zs[i]? = some x → ∃ ad, A = some ad ∧ ad.block < n₀ ∧ W.cell? (ad.add i) = some (.int .i64 x)) (hcap : zs.length ≤ c) (h0 : J [] W) :
    CallsIn F n Try.prog 47 #[.func (.yield l) #[] #[], .pointer (some ⟨Bs, 0, none⟩), .pointer (some ⟨Bn, 0, none⟩)] W fun e W' => (∃ v, e = .returned v) ∧
      ((∃ ys, ys = prs zs m ∧ J ys W') ∨ (∃ pre, pre <+: prs zs m ∧ Jx pre W')) := by
  refine callsIn_of_wp Try.func47 rfl h7 ?_ hro
  simp only [Try.ntmps47, List.size_toArray, List.length_cons, List.length_nil, Nat.reduceAdd, Nat.reduceSub, Array.replicate_succ, Array.replicate_zero, List.push_toArray, List.append_toArray, List.nil_append, List.cons_append]
  gi_wp2
  gi_loopw [8] (fun i wr => ∃ k : Nat, k ≤ zs.length ∧ i = .int .i64 k ∧ J (prsL 0 (zs.take k)) wr ∧ KpP n₀ Bs Bn W wr)
    (fun i _ => zs.length - (intOf i).toNat)
  case atStart => exact ⟨0, Nat.zero_le _, rfl, h0, KpP.refl _ _ _ _⟩
  case round =>
    obtain ⟨k, hk, rfl, hJs, hnx⟩ := hrel
    have hpl : (prsL 0 (zs.take k)).length ≤ k := Nat.le_trans (prsL_len _ _) (by simp; omega)
    by_cases hlt : k < zs.length
    · obtain ⟨ad, rfl, hadb, hcell⟩ := hz k zs[k] (List.getElem?_eq_getElem hlt)
      have hcx : wr.cell? (ad.add k) = some (.int .i64 zs[k]) := (hnx.1.cell (p := ad.add k) (by unfold Addr.add; split <;> exact hadb)).trans hcell
      have hsn := prsL_snoc (zs.take k) zs[k] 0
      rw [← take_snoc zs k _ (List.getElem?_eq_getElem hlt)] at hsn
      have hmin : 0 + (zs.take k).length = k := by simp; omega
      rw [hmin] at hsn
      have hpre : prsL 0 (zs.take (k + 1)) <+: prs zs m := by
        unfold prs
        refine List.IsPrefix.trans ?_ (List.prefix_append _ _)
        conv => rhs; rw [← List.take_append_drop (k + 1) zs]
        exact prsL_prefix _ _ _
      by_cases hj : zs[k] ≥ 0
      · rw [if_pos hj] at hsn
        obtain ⟨fn, tmps, assign, body, hy, hR⟩ := hY _ ((k : Int), zs[k]) wr hJs (by omega)
        dsimp only [encP] at hy
        have hj' : (decide ((0 : Int) ≤ zs[k])) = true := decide_eq_true hj
        gi_wp2
        refine hR.mono ?_
        rintro e W3 (⟨rfl, hJ3, hk3⟩ | ⟨rfl, hJx3⟩)
        · gi_wp2
          go_roundw
          case rel => exact ⟨k + 1, by omega, by simp, by rw [hsn]; exact hJ3, hnx.trans hk3⟩
          case measure => simp [intOf]; omega
        · gi_wp2
          refine bodyPost_ret (results_none rfl _ _ _) rfl ?_
          exact ⟨⟨_, rfl⟩, .inr ⟨_, by rw [← hsn]; exact hpre, hJx3⟩⟩
      · rw [if_neg hj, List.append_nil] at hsn
        gi_wp2
        refine ⟨fun _ h => (by cases h), ?_⟩
        gi_wp2
        go_roundw
        case rel => exact ⟨k + 1, by omega, by simp, by rw [hsn]; exact hJs, hnx⟩
        case measure => simp [intOf]; omega
    · obtain rfl : k = zs.length := by omega
      have hc1' : wr.cell? ⟨Bs, 0, none⟩ = some (.slice A zs.length c) := (hnx.box (.inl rfl)).trans hc1
      have hc2' : wr.cell? ⟨Bn, 0, none⟩ = some (.int .i64 m) := (hnx.box (.inr rfl)).trans hc2
      rw [List.take_length] at hJs hpl
      obtain ⟨fn, tmps, assign, body, hy, hR⟩ := hY _ ((zs.length : Int), m) wr hJs (by omega)
      dsimp only [encP] at hy
      gi_wp2
      refine hR.mono ?_
      rintro e W3 (⟨rfl, hJ3, hk3⟩ | ⟨rfl, hJx3⟩)
      · gi_wp2
        go_end0
        exact ⟨⟨_, rfl⟩, .inl ⟨_, rfl, hJ3⟩⟩
      · gi_wp2
        go_end0
        exact ⟨⟨_, rfl⟩, .inr ⟨_, List.prefix_rfl, hJx3⟩⟩
end Go.Proofs.Ytnebadlakmlkkaa.M
namespace Go.Proofs.Ytnebadlakmlkkaa.M
open Go.RowKit Go.Shelf Go.Proofs Go.Proofs.Ytnebadlakmlkkaa.Hand Go.Proofs.YtnebadlakmlkkaaW.PrintWords Go.Proofs.YtnebadlakmlkkaaW.PrintLast Go.Proofs.YtnebadlakmlkkaaW.PrintMore
attribute [local go_sem] Oper.semAt_some
set_option linter.unusedVariables false
set_option linter.unusedSimpArgs false

set_option maxHeartbeats 1000000 in
theorem pairs_in (F : Fence) (n : Nat) (h5 : F.fn 36) (hro : F.round = none) (A : Option Addr) (len cap : Nat) (m : Int) (w : World) :
    CallsIn F n Try.prog 36 #[.slice A len cap, .int .i64 m] w fun e w' => e = .returned (.func (.func 47) #[] #[.pointer (some ⟨w.heap.size, 0, none⟩), .pointer (some ⟨w.heap.size + 1, 0, none⟩)]) ∧ w' = (w.alloc (.cells #[.slice A len cap] 26)).alloc (.cells #[.int .i64 m] 3) := by
  refine callsIn_of_wp Try.func36 rfl h5 ?_ hro
  simp only [Try.ntmps36, List.size_toArray, List.length_cons, List.length_nil, Nat.reduceAdd, Nat.reduceSub, Array.replicate_succ, Array.replicate_zero, List.push_toArray, List.append_toArray, List.nil_append, List.cons_append]
  gi_wp2
  go_ret
  exact ⟨rfl, rfl⟩
theorem pairs_stops (F : Fence) (n : Nat) (h7 : F.fn 47) (hro : F.round = none) (hn : 1 ≤ n) (Bs Bn n₀ : Nat) (A : Option Addr) (c : Nat) (zs : List Int) (m : Int) (w : World) (hBs : Bs < w.heap.size) (hBn : Bn < w.heap.size) (hlen : zs.length ≤ 2000) (hn₀ : n₀ ≤ w.heap.size)
    (hc1 : w.cell? ⟨Bs, 0, none⟩ = some (.slice A zs.length c)) (hc2 : w.cell? ⟨Bn, 0, none⟩ = some (.int .i64 m)) (hz : ∀ i x, zs[i]? = some x → ∃ ad, A = some ad ∧ ad.block < n₀ ∧ w.cell? (ad.add i) = some (.int .i64 x)) (hcap : zs.length ≤ c) :
    SeqStopsK F n Try.prog 47 #[.pointer (some ⟨Bs, 0, none⟩), .pointer (some ⟨Bn, 0, none⟩)] encP (KpP n₀ Bs Bn) (fun ys => ys = prs zs m) (fun pre => pre <+: prs zs m) (zs.length + 1) w := fun l J Jx W hW _ _ hY h0 =>
  pairs1_in F n h7 hro hn l Bs Bn n₀ A c zs m hlen J Jx hY W ((hW.cell (p := ⟨Bs, 0, none⟩) hBs).trans hc1) ((hW.cell (p := ⟨Bn, 0, none⟩) hBn).trans hc2)
    (fun i x hx => by obtain ⟨ad, e, hb, hc⟩ := hz i x hx; exact ⟨ad, e, hb, (hW.cell (p := ad.add i) (by unfold Addr.add; split <;> (show ad.block < _; omega))).trans hc⟩) hcap h0

/-- What edit.may tells. -/
def mayL (n : Int) : Int → List Int → Bool
  | _, [] => decide (n ≥ 0)
  | last, j :: t => if j < -1 then false else if j ≥ n then false else if j ≥ 0 then (if j ≤ last then false else mayL n (mx last j) t) else mayL n (mx last j) t
theorem may_l0 (n : Int) (l : List Int) (hl : l.length ≤ 2000) (d : Nat) : ∀ (i k : Nat) (last : Int), i + d = l.length → d < k → edit_may.l0 k n last l (l.length : Int) (i : Int) = some (mayL n last (l.drop i)) := by
  induction d with
  | zero =>
    intro i k last hi hk
    obtain ⟨k, rfl⟩ : ∃ m, k = m + 1 := ⟨k - 1, by omega⟩
    rw [edit_may.l0, if_neg (by omega), List.drop_of_length_le (by omega)]
    rfl
  | succ d ih =>
    intro i k last hi hk
    have hlt : i < l.length := by omega
    obtain ⟨k, rfl⟩ : ∃ m, k = m + 1 := ⟨k - 1, by omega⟩
    have hr : rd l (i : Int) = l[i] := by simp [rd, List.getD_eq_getElem?_getD, hlt]
    have hw : wrap64 ((i : Int) + 1) = ((i + 1 : Nat) : Int) := by unfold wrap64; omega
    rw [edit_may.l0, if_pos (by omega), if_pos (by omega), if_pos (by omega), hr, hw, List.drop_eq_getElem_cons hlt]
    simp only [mayL]
    repeat' split
    all_goals first | rfl | exact ih (i + 1) k _ (by omega) (by omega)
theorem may_f (n : Int) (l : List Int) (hl : l.length ≤ 2000) (k : Nat) (hk : l.length < k) : edit_may.f k l n = some (mayL n (-1) l) := by
  unfold edit_may.f
  have := may_l0 n l hl l.length 0 k (-1) (by omega) hk
  simpa using this
theorem long_f (a b : Int) : edit_long.f 5 [a, b] = some (decide (a > 2000 ∨ b > 2000)) := by
  unfold edit_long.f
  have h1 : rd [a, b] 0 = a := rfl
  have h2 : rd [a, b] 1 = b := rfl
  simp only [edit_long.l0, h1, h2, wrap64, List.length_cons, List.length_nil]
  by_cases e : a > 2000
  · simp [e]
  · by_cases e2 : b > 2000
    · simp [e, e2, h1, h2]
    · simp [e, e2, h1, h2]

structure StC where
  l : List S60
  x : Int
  y : Int
def stepC (s : StC) (p : Int × Int) : StC := ⟨if p.1 > s.x ∨ p.2 > s.y then s.l ++ [⟨⟨s.x, p.1⟩, ⟨s.y, p.2⟩⟩] else s.l, wrap64 (p.1 + 1), wrap64 (p.2 + 1)⟩
def runC (pre : List (Int × Int)) : StC := pre.foldl stepC ⟨[], 0, 0⟩
theorem runC_snoc (pre : List (Int × Int)) (x : Int × Int) : runC (pre ++ [x]) = stepC (runC pre) x := by simp [runC]
theorem runC_len (pre : List (Int × Int)) : (runC pre).l.length ≤ pre.length := by
  have : ∀ (s : StC), (pre.foldl stepC s).l.length ≤ s.l.length + pre.length := by
    induction pre with
    | nil => intro s; simp
    | cons p t ih =>
      intro s
      refine Nat.le_trans (ih (stepC s p)) ?_
      simp only [stepC, List.length_cons]
      split <;> simp <;> omega
  simpa [runC] using this ⟨[], 0, 0⟩
def changesG (l0 : List Int) (a1 : Int) : List S60 := (runC (prs l0 a1)).l
def edit_Changes.f (k : Nat) (l0 : List Int) (a1 : Int) : Option (List S60 × Int) := if ((l0.length : Int) > 2000 ∨ a1 > 2000) then some ([], 4) else if mayL a1 (-1) l0 = true then some (changesG l0 a1, 0) else some ([], 1)
theorem edit_Changes.mono : ∀ a0 a1 k, LeO (edit_Changes.f k a0 a1) (edit_Changes.f (k + 1) a0 a1) := fun _ _ _ => LeO.refl _
def cellsC (x : S60) : List Value := [.int .i64 x.f0.f0, .int .i64 x.f0.f1, .int .i64 x.f1.f0, .int .i64 x.f1.f1]
theorem infoC : (Try.prog.info? 60).map (fun i => (i.zero, i.size, i.bytes)) = some (some (.agg #[.int .i64 0, .int .i64 0, .int .i64 0, .int .i64 0]), 4, 32) := by kernel_rfl

/-- The loop's variables, and the iterator's two. -/
def Vars (n₀ b : Nat) (W : World) (l : List S60) (x y : Int) (s n : Value) : Prop :=
  (∃ v, Boxed W b 43 v ∧ W.ownsRow n₀ 60 4 v l.length (l.flatMap cellsC) ∧ Aside0 True) ∧ Boxed W (b + 1) 3 (.int .i64 x) ∧ Boxed W (b + 1 + 1) 3 (.int .i64 y) ∧ Boxed W (b + 1 + 1 + 1) 26 s ∧ Boxed W (b + 1 + 1 + 1 + 1) 3 n
theorem vars_set {n₀ b : Nat} {W0 W : World} {l : List S60} {x y : Int} {s n : Value} (h : Vars n₀ b W l x y s n) (hb : n₀ ≤ b) (hk : KeepsOthers W0 W) (hB : Below n₀ W0 W) (hs : Boxed W0 (b + 1 + 1 + 1) 26 s) (hn : Boxed W0 (b + 1 + 1 + 1 + 1) 3 n) (x' y' : Int) :
    KeepsOthers W0 ((W.setCell ⟨b + 1, 0, none⟩ (.int .i64 x')).setCell ⟨b + 1 + 1, 0, none⟩ (.int .i64 y')) ∧ KpP n₀ (b + 1 + 1 + 1) (b + 1 + 1 + 1 + 1) W0 ((W.setCell ⟨b + 1, 0, none⟩ (.int .i64 x')).setCell ⟨b + 1 + 1, 0, none⟩ (.int .i64 y')) ∧ Vars n₀ b ((W.setCell ⟨b + 1, 0, none⟩ (.int .i64 x')).setCell ⟨b + 1 + 1, 0, none⟩ (.int .i64 y')) l x' y' s n := by
  obtain ⟨⟨v, hv, hrow, _⟩, hx, hy, hbs, hbn⟩ := h
  have hv2 : Boxed ((W.setCell ⟨b + 1, 0, none⟩ (.int .i64 x')).setCell ⟨b + 1 + 1, 0, none⟩ (.int .i64 y')) b 43 v := (hv.other (by omega) _).other (by omega) _
  have hbs2 := (hbs.other (B' := b + 1) (by omega) (.int .i64 x')).other (B' := b + 1 + 1) (by omega) (.int .i64 y')
  have hbn2 := (hbn.other (B' := b + 1) (by omega) (.int .i64 x')).other (B' := b + 1 + 1) (by omega) (.int .i64 y')
  have hrow1 := hrow.kept (grownBy_setCell' W (b + 1) (.int .i64 x')) (.inr (hx.not_row (by decide) hrow).symm)
  have hrow2 := hrow1.kept (grownBy_setCell' _ (b + 1 + 1) (.int .i64 y')) (.inr ((hy.other (B' := b + 1) (by omega) (.int .i64 x')).not_row (by decide) hrow1).symm)
  refine ⟨(hk.trans (KeepsOthers.setCell _ _ _)).trans (KeepsOthers.setCell _ _ _), ⟨(hB.setCell (p := ⟨b + 1, 0, none⟩) (by show n₀ ≤ b + 1; omega) _).setCell (p := ⟨b + 1 + 1, 0, none⟩) (by show n₀ ≤ b + 1 + 1; omega) _, fun k hk => ?_⟩, ⟨v, hv2, hrow2, ⟨trivial⟩⟩, (hx.set _).other (by omega) _, (hy.other (by omega) _).set _, hbs2, hbn2⟩
  rcases hk with rfl | rfl
  · exact Eq.trans hbs2 hs.symm
  · exact Eq.trans hbn2 hn.symm
theorem reps_C (w : World) (base : Nat) (ok : Nat → Prop) (l : List S60) : Reps (k60.M w base ok) 4 l (l.flatMap cellsC) := by
  induction l with
  | nil => exact Reps.none _ _
  | cons x l ih => exact Reps.c4 ⟨_, _, rfl, ⟨_, _, rfl, rfl, rfl⟩, ⟨_, _, rfl, rfl, rfl⟩⟩ ih

set_option maxRecDepth 100000 in
set_option maxHeartbeats 8000000 in
theorem edit_Changes.calls (k : Nat) (A0 : Option Addr) (c0 : Nat) (l0 : List Int) (a1 : Int) (r1 : List (S60)) (r2 : Int) (w : World) (hr0 : Kd.C (Kd.int .i64) w A0 l0.length l0) (hc0 : l0.length ≤ c0) (h : edit_Changes.f k l0 a1 = some (r1, r2)) :
    Calls Try.prog 23 #[.slice A0 l0.length c0, .int .i64 a1] w fun e w' => ∃ v0_ : Value, e = .returned (.tuple #[v0_, .int .i64 r2]) ∧ Kd.R k60 60 w' w.heap.size (fun _ => True) v0_ r1 ∧ Below w.heap.size w w' := by
  have HR := Aside0.mk hr0
  have HC := Aside0.mk hc0
  have H := Aside0.mk h
  clear hr0 hc0 h
  have hlit : Kd.C (Kd.int .i64) (w.alloc (.cells #[.int .i64 (l0.length : Int), .int .i64 a1] 3)) (some ⟨w.heap.size, 0, none⟩) 2 [(l0.length : Int), a1] := by
    have q0 : (w.alloc (.cells #[.int .i64 (l0.length : Int), .int .i64 a1] 3)).cell? ⟨w.heap.size, 0, none⟩ = some (.int .i64 (l0.length : Int)) := blk_cell (Go.heap_alloc_new w _) 0
    have q1 : (w.alloc (.cells #[.int .i64 (l0.length : Int), .int .i64 a1] 3)).cell? ⟨w.heap.size, 1, none⟩ = some (.int .i64 a1) := blk_cell (Go.heap_alloc_new w _) 1
    refine ⟨rfl, by omega, fun _ => ⟨_, rfl, fun j p hj => ?_⟩⟩
    match j, hj with
    | 0, hj => cases hj; exact ⟨[.int .i64 (l0.length : Int)], rfl, rfl, fun i u hi => by match i, hi with | 0, hi => cases hi; exact q0⟩
    | 1, hj => cases hj; exact ⟨[.int .i64 a1], rfl, rfl, fun i u hi => by match i, hi with | 0, hi => cases hi; exact q1⟩
  refine (callsIn_wide (n := 5)).1 ?_
  refine callsIn_of_wp_marks Try.func23 rfl trivial ?_ rfl
  simp only [Try.ntmps23, List.size_toArray, List.length_cons, List.length_nil, Nat.reduceAdd, Nat.reduceSub, Array.replicate_succ, Array.replicate_zero, List.push_toArray, List.append_toArray, List.nil_append, List.cons_append]
  have hB1 : ∀ nd, Below w.heap.size w ((w.alloc (.cells #[.int .i64 (l0.length : Int), .int .i64 a1] 3)).drewN nd) := fun nd => pw_below_drewN (below_alloc (Below.refl _ _) _) nd
  by_cases hlong : ((l0.length : Int) > 2000 ∨ a1 > 2000)
  · gi_wp2_with (first | (refine ⟨trivial, ?_⟩; gi_at_call 34; refine (callsIn_wide.2 (edit_long.calls 5 _ _ [(l0.length : Int), a1] _ _ hlit (Nat.le_refl _) (long_f _ _))).mono ?_; rintro e w1 ⟨rfl, nd, rfl⟩))
    have h := H.out
    unfold edit_Changes.f at h
    rw [if_pos hlong] at h
    obtain ⟨rfl, rfl⟩ := Prod.mk.inj (Option.some.inj h)
    exact ⟨_, results_tmp2 rfl _ _ _, _, rfl, Kd.R_nil _ _ _ _ _, hB1 nd⟩
  · have hle : l0.length ≤ 2000 := by omega
    have h := H.out
    clear H
    unfold edit_Changes.f at h
    rw [if_neg hlong] at h
    cases hm : mayL a1 (-1) l0 with
    | false =>
      rw [hm, if_neg (by decide)] at h
      obtain ⟨rfl, rfl⟩ := Prod.mk.inj (Option.some.inj h)
      have HM := Aside0.mk hm
      clear hm
      gi_wp2_with (first | (refine ⟨trivial, ?_⟩; gi_at_call 34; refine (callsIn_wide.2 (edit_long.calls 5 _ _ [(l0.length : Int), a1] _ _ hlit (Nat.le_refl _) (long_f _ _))).mono ?_; rintro e w1 ⟨rfl, nd, rfl⟩) | (refine ⟨trivial, ?_⟩; gi_at_call 35; refine (callsIn_wide.2 (edit_may.calls 3000 _ _ l0 a1 false _ (by repeat (first | exact HR.out | (with_reducible refine Kd.C_alloc ?_ _) | (with_reducible refine Kd.C_drewN ?_ _))) HC.out (by rw [may_f a1 l0 hle _ (by omega), HM.out]))).mono ?_; rintro e w2 ⟨rfl, hb⟩))
      exact ⟨_, results_tmp2 rfl _ _ _, _, rfl, Kd.R_nil _ _ _ _ _, below_step (hB1 nd) hb⟩
    | true =>
      rw [hm, if_pos rfl] at h
      obtain ⟨rfl, rfl⟩ := Prod.mk.inj (Option.some.inj h)
      have HM := Aside0.mk hm
      clear hm
      gi_wp2_with (first | (refine ⟨trivial, ?_⟩; gi_at_call 34; refine (callsIn_wide.2 (edit_long.calls 5 _ _ [(l0.length : Int), a1] _ _ hlit (Nat.le_refl _) (long_f _ _))).mono ?_; rintro e w1 ⟨rfl, nd, rfl⟩) | (refine ⟨trivial, ?_⟩; gi_at_call 35; refine (callsIn_wide.2 (edit_may.calls 3000 _ _ l0 a1 true _ (by repeat (first | exact HR.out | (with_reducible refine Kd.C_alloc ?_ _) | (with_reducible refine Kd.C_drewN ?_ _))) HC.out (by rw [may_f a1 l0 hle _ (by omega), HM.out]))).mono ?_; rintro e w2 ⟨rfl, hb⟩; have hB2 := Aside0.mk (below_step (hB1 nd) hb); clear hb) | (refine ⟨trivial, ?_⟩; gi_at_call 36; refine (pairs_in Fence.wide _ trivial rfl _ _ _ _ _).mono ?_; rintro e w3 ⟨rfl, rfl⟩))
      have hsz := hB2.out.size
      obtain ⟨W0, hW0⟩ : ∃ W0, ((((w2.alloc (Obj.cells #[Value.slice none 0 0] 43)).alloc (Obj.cells #[Value.int IntKind.i64 0] 3)).alloc (Obj.cells #[Value.int IntKind.i64 0] 3)).alloc (Obj.cells #[Value.slice A0 l0.length c0] 26)).alloc (Obj.cells #[Value.int IntKind.i64 a1] 3) = W0 := ⟨_, rfl⟩
      have hsz0 : W0.heap.size = w2.heap.size + 5 := by rw [← hW0]; simp
      have hB0 : Below w.heap.size w W0 := by rw [← hW0]; exact below_alloc (below_alloc (below_alloc (below_alloc (below_alloc hB2.out _) _) _) _) _
      have bl : Boxed W0 w2.heap.size 43 (.slice none 0 0) := by rw [← hW0]; exact ((((Boxed.new w2 43 (.slice none 0 0)).alloc _).alloc _).alloc _).alloc _
      have bx : Boxed W0 (w2.heap.size + 1) 3 (.int .i64 0) := by
        rw [← hW0]
        have := Boxed.new (w2.alloc (Obj.cells #[Value.slice none 0 0] 43)) 3 (.int .i64 0)
        rw [World.size_alloc] at this
        exact ((this.alloc _).alloc _).alloc _
      have byy : Boxed W0 (w2.heap.size + 1 + 1) 3 (.int .i64 0) := by
        rw [← hW0]
        have := Boxed.new ((w2.alloc (Obj.cells #[Value.slice none 0 0] 43)).alloc (Obj.cells #[Value.int IntKind.i64 0] 3)) 3 (.int .i64 0)
        rw [World.size_alloc, World.size_alloc] at this
        exact (this.alloc _).alloc _
      have bs : Boxed W0 (w2.heap.size + 1 + 1 + 1) 26 (.slice A0 l0.length c0) := by
        rw [← hW0]
        have := Boxed.new (((w2.alloc (Obj.cells #[Value.slice none 0 0] 43)).alloc (Obj.cells #[Value.int IntKind.i64 0] 3)).alloc (Obj.cells #[Value.int IntKind.i64 0] 3)) 26 (.slice A0 l0.length c0)
        rw [World.size_alloc, World.size_alloc, World.size_alloc] at this
        exact this.alloc _
      have bn : Boxed W0 (w2.heap.size + 1 + 1 + 1 + 1) 3 (.int .i64 a1) := by
        rw [← hW0]
        have := Boxed.new ((((w2.alloc (Obj.cells #[Value.slice none 0 0] 43)).alloc (Obj.cells #[Value.int IntKind.i64 0] 3)).alloc (Obj.cells #[Value.int IntKind.i64 0] 3)).alloc (Obj.cells #[Value.slice A0 l0.length c0] 26)) 3 (.int .i64 a1)
        rw [World.size_alloc, World.size_alloc, World.size_alloc, World.size_alloc] at this
        exact this
      rw [hW0]
      clear hW0
      have hcells : ∀ i x, l0[i]? = some x → ∃ ad, A0 = some ad ∧ ad.block < w.heap.size ∧ W0.cell? (ad.add i) = some (.int .i64 x) := by
        intro i x hx
        obtain ⟨ad, e, hc⟩ := C_int HR.out i x hx
        have hlt : ad.block < w.heap.size := by
          have h1 : (ad.add i).block < w.heap.size := by
            rcases Nat.lt_or_ge (ad.add i).block w.heap.size with h1 | h1
            · exact h1
            · simp [World.cell?, Array.getElem?_eq_none h1] at hc
          unfold Addr.add at h1
          split at h1 <;> exact h1
        exact ⟨ad, e, hlt, (hB0.cell (p := ad.add i) (by unfold Addr.add; split <;> exact hlt)).trans hc⟩
      refine wpIn_rangeFunc_ownF rfl (by omega) (gf := 47) (lb := #[.pointer (some ⟨w2.heap.size + 1 + 1 + 1, 0, none⟩), .pointer (some ⟨w2.heap.size + 1 + 1 + 1 + 1, 0, none⟩)]) rfl trivial (enters_of Try.func47 (by kernel_rfl) rfl)
        (pairs_stops Fence.wide _ trivial rfl (by omega) (w2.heap.size + 1 + 1 + 1) (w2.heap.size + 1 + 1 + 1 + 1) w.heap.size A0 c0 l0 a1 W0 (by omega) (by omega) hle (by omega) bs.cell bn.cell hcells HC.out) KpP.trans (KpP.put (by omega) (by omega) (by omega)) (Below.refl _ _) (fun _ => rfl)
        (fun pre W => ((∃ v, Boxed W w2.heap.size 43 v ∧ W.ownsRow w.heap.size 60 4 v (runC pre).l.length ((runC pre).l.flatMap cellsC) ∧ Aside0 True) ∧ Boxed W (w2.heap.size + 1) 3 (.int .i64 (runC pre).x) ∧ Boxed W (w2.heap.size + 1 + 1) 3 (.int .i64 (runC pre).y) ∧ Boxed W (w2.heap.size + 1 + 1 + 1) 26 (.slice A0 l0.length c0) ∧ Boxed W (w2.heap.size + 1 + 1 + 1 + 1) 3 (.int .i64 a1)) ∧ Below w.heap.size w W)
        (fun _ _ _ => False)
        (OwnFrom.and (OwnFrom.and (Own.from (holdsRow_own w.heap.size w2.heap.size 43 60 4 (fun pre => (runC pre).l.length) (fun pre => (runC pre).l.flatMap cellsC) (fun _ _ => Aside0 True)) _) (OwnFrom.and (Own.from (boxed_own _ _ _) _) (OwnFrom.and (Own.from (boxed_own _ _ _) _) (OwnFrom.and (Own.from (boxed_own _ _ _) _) (Own.from (boxed_own _ _ _) _))))) (ownFrom_below (Nat.le_refl _) (by omega)))
        (fun _ _ _ _ _ hs _ _ => hs)
        ⟨⟨⟨_, bl, World.ownsRow_nil _ _ _ _, ⟨trivial⟩⟩, bx, byy, bs, bn⟩, hB0⟩
        (fun x => { tmps := #[.slice A0 l0.length c0, .int .i64 a1, undef, undef, .slice none 0 0, .int .i64 0, .pointer (some ⟨w2.heap.size, 0, none⟩), .pointer (some ⟨w2.heap.size + 1, 0, none⟩), .pointer (some ⟨w2.heap.size + 1 + 1, 0, none⟩), .int .i64 x.1, .int .i64 x.2, .slice A0 l0.length c0, .int .i64 (l0.length : Int), .int .i64 a1, .slice (some ⟨w.heap.size, 0, none⟩) 2 2, .bool false, .slice A0 l0.length c0, .int .i64 a1, .bool true, .bool false, .slice A0 l0.length c0, .int .i64 a1,
          .func (.func 47) #[] #[.pointer (some ⟨w2.heap.size + 1 + 1 + 1, 0, none⟩), .pointer (some ⟨w2.heap.size + 1 + 1 + 1 + 1, 0, none⟩)], .int .i64 x.1, .int .i64 x.2, undef, undef, undef, undef, undef, undef, undef, undef, undef, undef, undef, undef, undef, undef, undef, undef, undef, undef, undef, undef, undef, undef, undef], defers := [] }) ?assign ?body ?done ?stop
      case assign =>
        intro l x W K hK
        gi_wp2
        exact hK
      case body =>
        rintro l pre x W ⟨⟨⟨v, hv, hrow, _⟩, hx, hy, hbs, hbn⟩, hB⟩ hlen
        have hxc := hx.cell
        have hxf := hx.frozen
        have hyc := hy.cell
        have hyf := hy.frozen
        have hvc := hv.cell
        have hvf := hv.frozen
        have hl2 : (runC pre).l.length ≤ 2000 := Nat.le_trans (runC_len pre) (by omega)
        obtain ⟨i0, hi, hz0, hz1, hz2⟩ := info_parts infoC
        have hy0 := hy.other (B' := w2.heap.size + 1) (by omega) (.int .i64 (wrap64 (x.1 + 1)))
        have hy0c := hy0.cell
        have hy0f := hy0.frozen
        gi_wp2_with (first
          | (gi_at_builtin; refine wpListIn_append_own _ rfl _ _ 43 rfl w.heap.size 60 i0 (.agg #[.int .i64 0, .int .i64 0, .int .i64 0, .int .i64 0]) 4 32 Try.underlying43 hi hz0 hz1 hz2 rfl (by decide) v _ _ rfl (hrow.alloc _) ⟨W.heap.size, 0, none⟩ 1 1 (cellsC ⟨⟨(runC pre).x, x.1⟩, ⟨(runC pre).y, x.2⟩⟩) rfl rfl
              (by
                intro j u hj
                rw [show (⟨W.heap.size, 0, none⟩ : Addr).add j = ⟨W.heap.size, j, none⟩ from by unfold Addr.add; split <;> simp_all]
                rw [blk_cell (Go.heap_alloc_new W _) j]
                simpa [cellsC] using hj)
              (by simp [Value.oneCell', cellsC]) (by unfold maxLen; omega) (by omega) (by have := hB.size; simp; omega) ?_
             intro v' w1 hown' hgrow _
             obtain ⟨g', cap', rfl⟩ := ownsRow_succ hown'
             obtain ⟨hv1, hv2, hr2, hk2, hb2⟩ := hv.appended (by decide) hrow (by have := hB.size; omega) (by omega) hown' hgrow
             have hc1 := hv1.cell
             have hf1 := hv1.frozen
             have hx1 := ((hx.alloc _).kept hgrow (hx.not_row (by decide) hrow)).other (B' := w2.heap.size) (by omega) (.slice (some ⟨g', 0, none⟩) ((runC pre).l.length + 1) cap')
             have hy1 := ((hy.alloc _).kept hgrow (hy.not_row (by decide) hrow)).other (B' := w2.heap.size) (by omega) (.slice (some ⟨g', 0, none⟩) ((runC pre).l.length + 1) cap')
             have hs1 := ((hbs.alloc _).kept hgrow (hbs.not_row (by decide) hrow)).other (B' := w2.heap.size) (by omega) (.slice (some ⟨g', 0, none⟩) ((runC pre).l.length + 1) cap')
             have hn1 := ((hbn.alloc _).kept hgrow (hbn.not_row (by decide) hrow)).other (B' := w2.heap.size) (by omega) (.slice (some ⟨g', 0, none⟩) ((runC pre).l.length + 1) cap')
             have fin1 := @vars_set w.heap.size w2.heap.size W _ ((runC pre).l ++ [⟨⟨(runC pre).x, x.1⟩, ⟨(runC pre).y, x.2⟩⟩]) _ _ _ _ ⟨⟨_, hv2, by simpa [List.flatMap_append] using hr2, ⟨trivial⟩⟩, hx1, hy1, hs1, hn1⟩ (by omega) hk2 hb2 hbs hbn (wrap64 (x.1 + 1)) (wrap64 (x.2 + 1))
             have hx1c := hx1.cell
             have hx1f := hx1.frozen
             have hy2 := hy1.other (B' := w2.heap.size + 1) (by omega) (.int .i64 (wrap64 (x.1 + 1)))
             have hy2c := hy2.cell
             have hy2f := hy2.frozen))
        · have hcx : x.1 > (runC pre).x ∨ x.2 > (runC pre).y := by omega
          obtain ⟨f1, f2, f3⟩ := fin1
          have hsn := runC_snoc pre x
          unfold stepC at hsn
          rw [if_pos hcx] at hsn
          refine ⟨f1, f2, ?_, hB.trans f2.1⟩
          rw [hsn]
          exact f3
        · have hcx : ¬ (x.1 > (runC pre).x ∨ x.2 > (runC pre).y) := by omega
          obtain ⟨f1, f2, f3⟩ := @vars_set w.heap.size w2.heap.size W W _ _ _ _ _ ⟨⟨v, hv, hrow, ⟨trivial⟩⟩, hx, hy, hbs, hbn⟩ (by omega) (KeepsOthers.refl _) (Below.refl _ _) hbs hbn (wrap64 (x.1 + 1)) (wrap64 (x.2 + 1))
          refine ⟨f1, f2, ?_, hB.trans f2.1⟩
          have hsn := runC_snoc pre x
          unfold stepC at hsn
          rw [if_neg hcx] at hsn
          rw [hsn]
          exact f3
        · have hcx : x.1 > (runC pre).x ∨ x.2 > (runC pre).y := by omega
          obtain ⟨f1, f2, f3⟩ := fin1
          have hsn := runC_snoc pre x
          unfold stepC at hsn
          rw [if_pos hcx] at hsn
          refine ⟨f1, f2, ?_, hB.trans f2.1⟩
          rw [hsn]
          first
          | exact f3
          | (obtain ⟨⟨v, q1, q2, _⟩, q3⟩ := f3; exact ⟨⟨v, q1, q2⟩, q3⟩)
      case done =>
        rintro D ys W hD rfl ⟨⟨⟨v, hv, hrow, _⟩, hx, hy, hbs, hbn⟩, hB⟩ hK
        have hvc := hv.cell
        gi_wp2
        refine ⟨by simp, .inl ⟨_, _, rfl, run_takeDeferred hK, ?_⟩⟩
        exact ⟨_, results_tmp2 rfl _ _ _, v, rfl, ⟨fun _ _ => trivial, _, ownsRow_putObj hrow _ hK rfl, reps_C _ _ _ _⟩, hB.trans (belowK_b (w := w) (Nat.le_refl _) W D _ _ (by omega) hK rfl rfl)⟩
      case stop =>
        rintro D c pre W _ _ h _
        exact h.elim
end Go.Proofs.Ytnebadlakmlkkaa.M
