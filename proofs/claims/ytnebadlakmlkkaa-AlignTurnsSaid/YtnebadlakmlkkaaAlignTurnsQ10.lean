/- Texts of the claim AlignTurns, put together (part 10): Layer 5, plain: what the printed functions of the references answer. Layer 5, plain: matches may be; the chunks that cut tells; what covers tells. Layer 5, plain: what covers tells. Layer 5, plain: how long, and how great, what cut tells is. Layer 5, plain: what is known of each chunk. The plain law of AlignTurns: what the printed functions answer is true. -/
import Derived.ArgAppend
import Derived.Below
import Derived.BigQuiet
import Derived.Deep.AppendLies
import Derived.Deep.CutBlock
import Derived.Deep.DeepCutAuto
import Derived.Deep.DrawnRows
import Derived.Deep.Draws
import Derived.Deep.LoopGhost
import Derived.Deep.OwnRows
import Derived.Deep.QuietTactic
import Derived.Deep.RegionHeld3
import Derived.KernelRfl
import Derived.Laws.BitsLemmas
import Derived.Laws.BytesArg
import Derived.Laws.IdiomCopy
import Derived.Laws.MakeOwn
import Derived.Laws.OwnMore
import Derived.Laws.Rows
import Derived.Laws.Slices
import Derived.Laws.StructEq
import Derived.Lib.AppendStr
import Derived.Lib.ConvBytes
import Derived.Maps.AppendAt
import Derived.OrdersHeld
import Derived.OwnWalk
import Derived.RowKit
import Derived.RowKit3
import Derived.Tactics
import Derived.Test.YtnebadlakmlkkaaProg
import Derived.WalkKit
import Derived.WalkMore
import Derived.WideLaws
import Derived.Test.YtnebadlakmlkkaaAlignTurnsQ9
namespace Go.Proofs.Ytnebadlakmlkkaa.Pure
open Go.RowKit Go.Proofs.Ytnebadlakmlkkaa.M Go.Proofs.Ytnebadlakmlkkaa.Hand Go.Proofs.YtnebadlakmlkkaaW.PrintWords Go.Proofs.YtnebadlakmlkkaaW.PrintLast Go.Proofs.YtnebadlakmlkkaaW.PrintMore
set_option linter.unusedVariables false

theorem rd_at (l : List Int) (i : Nat) : rd l (i : Int) = l.getD i 0 := by simp [rd]
theorem w1 {i : Nat} (h : i ≤ 1000000) : wrap64 ((i : Int) + 1) = ((i + 1 : Nat) : Int) := by unfold wrap64; omega
/-- What holds with some fuel holds with more. -/
theorem leO_le {α : Type} {f : Nat → Option α} (h : ∀ k, LeO (f k) (f (k + 1))) {k k' : Nat} (hk : k ≤ k') {r : α} (hr : f k = some r) : f k' = some r := by
  obtain ⟨d, rfl⟩ := Nat.exists_eq_add_of_le hk
  induction d with
  | zero => exact hr
  | succ d ih => exact h (k + d) r (ih (by omega))

theorem ints_l0 (l : List Int) (hl : l.length ≤ 1000000) (hv : ∀ x ∈ l, 0 ≤ x ∧ x ≤ 1000000) : ∀ d i k, i + d = l.length → d < k → sennitref03_Ints.l0 k l (l.take i) (i : Int) = some l := by
  intro d
  induction d with
  | zero =>
    intro i k hi hk
    obtain ⟨k, rfl⟩ : ∃ q, k = q + 1 := ⟨k - 1, by omega⟩
    rw [sennitref03_Ints.l0, if_neg (by omega), List.take_of_length_le (by omega)]
  | succ d ih =>
    intro i k hi hk
    have hlt : i < l.length := by omega
    obtain ⟨k, rfl⟩ : ∃ q, k = q + 1 := ⟨k - 1, by omega⟩
    have hx := hv l[i] (List.getElem_mem hlt)
    have hw : wrap64 (rd l (i : Int)) = l[i] := by
      rw [rd_at, List.getD_eq_getElem?_getD, List.getElem?_eq_getElem hlt]
      show wrap64 l[i] = l[i]
      unfold wrap64; omega
    rw [sennitref03_Ints.l0, if_pos (by omega), if_pos (by omega), if_pos (by simp; omega), hw, w1 (by omega), ← take_snoc l i _ (List.getElem?_eq_getElem hlt)]
    exact ih (i + 1) k (by omega) (by omega)
theorem ints_f (l : List Int) (hl : l.length ≤ 1000000) (hv : ∀ x ∈ l, 0 ≤ x ∧ x ≤ 1000000) (k : Nat) (hk : l.length < k) : sennitref03_Ints.f k l = some l := ints_l0 l hl hv l.length 0 k (by omega) hk
theorem lists_l0 (l : List (List Int)) (hl : l.length ≤ 1000) (hv : ∀ y ∈ l, y.length ≤ 1000 ∧ ∀ x ∈ y, 0 ≤ x ∧ x ≤ 1000000) : ∀ d i k, i + d = l.length → d + 1001 < k → sennitref05_Lists.l0 k l (l.take i) (i : Int) = some l := by
  intro d
  induction d with
  | zero =>
    intro i k hi hk
    obtain ⟨k, rfl⟩ : ∃ q, k = q + 1 := ⟨k - 1, by omega⟩
    rw [sennitref05_Lists.l0, if_neg (by omega), List.take_of_length_le (by omega)]
  | succ d ih =>
    intro i k hi hk
    have hlt : i < l.length := by omega
    obtain ⟨k, rfl⟩ : ∃ q, k = q + 1 := ⟨k - 1, by omega⟩
    have hx := hv l[i] (List.getElem_mem hlt)
    have hr : rd_L9 l (i : Int) = l[i] := by simp [rd_L9, List.getD_eq_getElem?_getD, hlt]
    rw [sennitref05_Lists.l0, if_pos (by omega), if_pos (by omega), hr, ints_f _ (by omega) hx.2 _ (by omega), Option.bind_some, if_pos (by simp; omega), w1 (by omega), ← take_snoc l i _ (List.getElem?_eq_getElem hlt)]
    exact ih (i + 1) k (by omega) (by omega)
theorem lists_f (l : List (List Int)) (hl : l.length ≤ 1000) (hv : ∀ y ∈ l, y.length ≤ 1000 ∧ ∀ x ∈ y, 0 ≤ x ∧ x ≤ 1000000) (k : Nat) (hk : 2002 ≤ k) : sennitref05_Lists.f k l = some l := lists_l0 l hl hv l.length 0 k (by omega) (by omega)

/-- Few, of lists as they may come in. -/
theorem few_l0 (b : List Int) (l : List (List Int)) (hb : b.length ≤ 9223372036854775807) (hl : l.length ≤ 9223372036854775807) (hx : ∀ y ∈ l, y.length ≤ 9223372036854775807) : ∀ d i k, i + d = 7 → i ≤ l.length → 2 * d + 2 < k → (∀ q < i, (l.getD q []).length ≤ 30) →
    ∃ r, sennitref05_Few.l0 k b l (i : Int) = some r ∧ (r = true → b.length ≤ 30 ∧ 1 ≤ l.length ∧ l.length ≤ 6 ∧ ∀ y ∈ l, y.length ≤ 30) := by
  have fin : ∀ i k, 2 ≤ k → (i = l.length ∨ i = 7) → (∀ q < i, (l.getD q []).length ≤ 30) → ∃ r, sennitref05_Few.j1 k b l (i : Int) false = some r ∧ (r = true → b.length ≤ 30 ∧ 1 ≤ l.length ∧ l.length ≤ 6 ∧ ∀ y ∈ l, y.length ≤ 30) := by
    intro i k hk hi hq
    obtain ⟨k, rfl⟩ : ∃ q, k = q + 1 := ⟨k - 1, by omega⟩
    rw [sennitref05_Few.j1, if_neg (by decide)]
    by_cases h1 : (b.length : Int) ≤ 30
    · rw [if_pos h1]
      by_cases h2 : (l.length : Int) ≥ 1
      · rw [if_pos h2]
        refine ⟨_, rfl, fun h => ?_⟩
        have h3 := of_decide_eq_true h
        refine ⟨by omega, by omega, by omega, fun y hy => ?_⟩
        obtain ⟨q, hq1, rfl⟩ := mem_getD l [] y hy
        exact hq q (by omega)
      · rw [if_neg h2]; exact ⟨_, rfl, by simp⟩
    · rw [if_neg h1]; exact ⟨_, rfl, by simp⟩
  intro d
  induction d with
  | zero =>
    intro i k hi hil hk hq
    obtain ⟨k, rfl⟩ : ∃ q, k = q + 1 := ⟨k - 1, by omega⟩
    rw [sennitref05_Few.l0]
    have h7 : decide ((i : Int) < 7) = false := decide_eq_false (by omega)
    rw [h7]
    have := fin i k (by omega) (.inr (by omega)) hq
    split <;> exact this
  | succ d ih =>
    intro i k hi hil hk hq
    obtain ⟨k, rfl⟩ : ∃ q, k = q + 1 := ⟨k - 1, by omega⟩
    rw [sennitref05_Few.l0]
    by_cases hlt : i < l.length
    · have h7 : decide ((i : Int) < 7) = true := decide_eq_true (by omega)
      have hr : rd_L9 l (i : Int) = l.getD i [] := by simp [rd_L9]
      rw [if_pos (by omega), h7]
      obtain ⟨k, rfl⟩ : ∃ q, k = q + 1 := ⟨k - 1, by omega⟩
      rw [sennitref05_Few.j1, if_pos rfl, if_pos (by omega), if_pos (by omega), hr]
      by_cases h30 : ((l.getD i []).length : Int) > 30
      · rw [if_pos h30]; exact ⟨_, rfl, by simp⟩
      · rw [if_neg h30, w1 (by omega)]
        refine ih (i + 1) k (by omega) (by omega) (by omega) fun q hqi => ?_
        rcases Nat.lt_or_ge q i with h | h
        · exact hq q h
        · obtain rfl : q = i := by omega
          omega
    · rw [if_neg (by omega)]
      exact fin i k (by omega) (.inl (by omega)) hq
theorem few_f (b : List Int) (l : List (List Int)) (hb : b.length ≤ 9223372036854775807) (hl : l.length ≤ 9223372036854775807) (hx : ∀ y ∈ l, y.length ≤ 9223372036854775807) (k : Nat) (hk : 17 ≤ k) :
    ∃ r, sennitref05_Few.f k b l = some r ∧ (r = true → b.length ≤ 30 ∧ 1 ≤ l.length ∧ l.length ≤ 6 ∧ ∀ y ∈ l, y.length ≤ 30) := few_l0 b l hb hl hx 7 0 k (by omega) (by omega) (by omega) (fun q h => by omega)

/-! The table of the longest common parts: its length alone is wanted. -/
theorem wsm {z : Int} (h0 : 0 ≤ z) (h : z ≤ 1000000000) : wrap64 z = z := by unfold wrap64; omega
theorem tab_facts (n m i : Nat) (hi : i < n) (hn : n ≤ 100) (hm : m ≤ 100) : ∃ p q L : Nat, (n + 1) * (m + 1) = L ∧ q = p + (m + 1) ∧ q + (m + 1) ≤ L ∧ L ≤ 20000 ∧ ((i : Int) + 1) * ((m + 1 : Nat) : Int) = (q : Int) ∧ (i : Int) * ((m + 1 : Nat) : Int) = (p : Int) := by
  refine ⟨i * (m + 1), (i + 1) * (m + 1), (n + 1) * (m + 1), rfl, ?_, ?_, ?_, ?_, ?_⟩
  · rw [Nat.add_mul, Nat.one_mul]
  · have h : (i + 1) * (m + 1) ≤ n * (m + 1) := Nat.mul_le_mul_right _ hi
    rw [Nat.add_mul n, Nat.one_mul]
    exact Nat.add_le_add_right h _
  · exact Nat.le_trans (Nat.mul_le_mul (show n + 1 ≤ 101 by omega) (show m + 1 ≤ 101 by omega)) (by decide)
  · rw [Int.natCast_mul]; rfl
  · rw [Int.natCast_mul]
/-- The places of a table, as Go reckons them. -/
theorem tab_wraps (p q d m i : Nat) (hq : q = p + (m + 1)) (hL : q + (m + 1) ≤ 20000) (hd : d ≤ 100) (hi : i ≤ 100) (e1 : ((i : Int) + 1) * ((m + 1 : Nat) : Int) = (q : Int)) (e2 : (i : Int) * ((m + 1 : Nat) : Int) = (p : Int)) :
    wrap64 (((i : Int) + 1)) = (i : Int) + 1 ∧ wrap64 (((i : Int) + 1) * ((m + 1 : Nat) : Int)) = (q : Int) ∧ wrap64 ((i : Int) * ((m + 1 : Nat) : Int)) = (p : Int) ∧ wrap64 ((q : Int) + (d : Int)) = ((q + d : Nat) : Int) ∧ wrap64 ((p : Int) + (d : Int)) = ((p + d : Nat) : Int) ∧
      wrap64 (((p + d : Nat) : Int) + 1) = ((p + d + 1 : Nat) : Int) ∧ wrap64 (((q + d : Nat) : Int) + 1) = ((q + d + 1 : Nat) : Int) ∧ wrap64 ((d : Int) + 1) = ((d + 1 : Nat) : Int) := by
  rw [e1, e2]
  clear e1 e2
  refine ⟨?_, ?_, ?_, ?_, ?_, ?_, ?_, ?_⟩ <;> exact wsm (by omega) (by omega)
theorem wsub {d : Nat} (h : d ≤ 1000) : wrap64 ((d : Int) - 1) = (d : Int) - 1 := by unfold wrap64; omega
set_option maxHeartbeats 2000000 in
theorem rest_l1 (a b : List Int) (ha : a.length ≤ 100) (hb : b.length ≤ 100) (i : Nat) (hi : i < a.length) (k : Nat) : ∀ d (t : List Int), d ≤ b.length → t.length = (a.length + 1) * (b.length + 1) →
    ∃ t', t'.length = (a.length + 1) * (b.length + 1) ∧ sennitref03_rest.l1 (k + d + 1) a b ((b.length + 1 : Nat) : Int) t (i : Int) ((d : Int) - 1) = sennitref03_rest.l0 k a b ((b.length + 1 : Nat) : Int) t' ((i : Int) - 1) := by
  obtain ⟨p, q, L, hL, hq, hqL, hL2, e1, e2⟩ := tab_facts a.length b.length i hi ha hb
  rw [hL]
  clear hL
  intro d
  induction d with
  | zero =>
    intro t _ ht
    refine ⟨t, ht, ?_⟩
    rw [sennitref03_rest.l1, if_neg (by omega), wsub (by omega)]
  | succ d ih =>
    intro t hd ht
    have c0 : (d : Int) ≥ 0 := by omega
    have c1 : (0 : Int) ≤ ((q + d : Nat) : Int) := by omega
    have c2 : ((q + d : Nat) : Int) < (t.length : Int) := by omega
    have c3 : (0 : Int) ≤ ((p + d + 1 : Nat) : Int) := by omega
    have c4 : ((p + d + 1 : Nat) : Int) < (t.length : Int) := by omega
    have c5 : (0 : Int) ≤ (i : Int) := by omega
    have c6 : (i : Int) < (a.length : Int) := by omega
    have c7 : (0 : Int) ≤ (d : Int) := by omega
    have c8 : (d : Int) < (b.length : Int) := by omega
    have c9 : (0 : Int) ≤ ((q + d + 1 : Nat) : Int) := by omega
    have c10 : ((q + d + 1 : Nat) : Int) < (t.length : Int) := by omega
    have c11 : (0 : Int) ≤ ((p + d : Nat) : Int) := by omega
    have c12 : ((p + d : Nat) : Int) < (t.length : Int) := by omega
    have y0 : (((d + 1 : Nat) : Int) - 1) = (d : Int) := by omega
    have hdb : d ≤ b.length := by omega
    obtain ⟨x1, x2, x3, y1, y2, y3, y4, _⟩ := tab_wraps p q d b.length i hq (by omega) (by omega) (by omega) e1 e2
    rw [show k + (d + 1) + 1 = (k + d + 1) + 1 from rfl, sennitref03_rest.l1, y0, x1, x2, x3, y1, y2, y3, y4, wsub (Nat.le_trans hdb (Nat.le_trans hb (by decide)))]
    clear x1 x2 x3 y1 y2 y3 y4 e1 e2 y0
    rw [if_pos c0, if_pos c1, if_pos c2, if_pos c3, if_pos c4, if_pos c5, if_pos c6, if_pos c7, if_pos c8]
    split
    · try rw [if_pos c9, if_pos c10, if_pos c11, if_pos c12]
      exact ih _ hdb (by rw [List.length_set]; exact ht)
    · try rw [if_pos c11, if_pos c12]
      exact ih _ hdb (by rw [List.length_set]; exact ht)
theorem rest_l0 (a b : List Int) (ha : a.length ≤ 100) (hb : b.length ≤ 100) : ∀ (i : Nat) (k : Nat) (t : List Int), i ≤ a.length → (b.length + 3) * i + 1 ≤ k → t.length = (a.length + 1) * (b.length + 1) →
    ∃ t', t'.length = (a.length + 1) * (b.length + 1) ∧ sennitref03_rest.l0 k a b ((b.length + 1 : Nat) : Int) t ((i : Int) - 1) = some t' := by
  intro i
  induction i with
  | zero =>
    intro k t _ hk ht
    obtain ⟨k, rfl⟩ : ∃ q, k = q + 1 := ⟨k - 1, by omega⟩
    exact ⟨t, ht, by rw [sennitref03_rest.l0, if_neg (by omega)]⟩
  | succ i ih =>
    intro k t hi hk ht
    rw [Nat.mul_succ] at hk
    obtain ⟨k, rfl⟩ : ∃ q, k = (q + b.length + 1) + 1 := ⟨k - b.length - 2, by omega⟩
    have hw : wrap64 ((b.length : Int) - 1) = (b.length : Int) - 1 := by unfold wrap64; omega
    rw [sennitref03_rest.l0, if_pos (by omega), show (((i + 1 : Nat) : Int) - 1) = (i : Int) by omega, hw]
    obtain ⟨t1, h1, h2⟩ := rest_l1 a b ha hb i hi k b.length t (Nat.le_refl _) ht
    rw [h2]
    exact ih k t1 (by omega) (by omega) h1
theorem rest_f (a b : List Int) (ha : a.length ≤ 100) (hb : b.length ≤ 100) (k : Nat) (hk : 20000 ≤ k) : ∃ t, t.length = (a.length + 1) * (b.length + 1) ∧ sennitref03_rest.f k a b = some t := by
  have hp4 : (a.length + 1) * (b.length + 1) ≤ 101 * 101 := Nat.mul_le_mul (by omega) (by omega)
  have hp5 : (b.length + 3) * a.length ≤ 103 * 100 := Nat.mul_le_mul (by omega) ha
  have x1 : wrap64 ((a.length : Int) + 1) = ((a.length + 1 : Nat) : Int) := w1 (by omega)
  have x2 : wrap64 ((b.length : Int) + 1) = ((b.length + 1 : Nat) : Int) := w1 (by omega)
  have x3 : wrap64 (((a.length + 1 : Nat) : Int) * ((b.length + 1 : Nat) : Int)) = (((a.length + 1) * (b.length + 1) : Nat) : Int) := by
    rw [← Int.natCast_mul]; unfold wrap64; omega
  have x4 : wrap64 ((a.length : Int) - 1) = (a.length : Int) - 1 := by unfold wrap64; omega
  unfold sennitref03_rest.f
  rw [x1, x2, x3, x4, if_pos (by omega), Int.toNat_natCast, if_pos (by omega)]
  exact rest_l0 a b ha hb a.length k _ (Nat.le_refl _) (by omega) (by simp)

/-- A match of two lists, as far as it goes. -/
structure MInv (a b : List Int) (out : List Int) (i j : Nat) : Prop where
  len : out.length = i
  ia : i ≤ a.length
  jb : j ≤ b.length
  val : ∀ q < i, out.getD q 0 = -1 ∨ (0 ≤ out.getD q 0 ∧ out.getD q 0 < j ∧ a.getD q 0 = b.getD (out.getD q 0).toNat 0)
  inc : ∀ p q, p < q → q < i → 0 ≤ out.getD p 0 → 0 ≤ out.getD q 0 → out.getD p 0 < out.getD q 0
theorem getD_snoc (out : List Int) (x : Int) (q : Nat) : (out ++ [x]).getD q 0 = if q < out.length then out.getD q 0 else if q = out.length then x else 0 := by
  simp only [List.getD_eq_getElem?_getD]
  split
  · rename_i h; rw [List.getElem?_append_left h]
  · rename_i h
    split
    · rename_i h2; rw [h2, List.getElem?_append_right (Nat.le_refl _), Nat.sub_self]; rfl
    · rename_i h2; rw [List.getElem?_eq_none (by simp; omega)]; rfl
theorem MInv.none {a b out : List Int} {i j : Nat} (h : MInv a b out i j) (hi : i < a.length) : MInv a b (out ++ [-1]) (i + 1) j := by
  have hl := h.len
  refine ⟨by simp [hl], hi, h.jb, fun q hq => ?_, fun p q hpq hq h1 h2 => ?_⟩
  · rw [getD_snoc]
    split
    · exact h.val q (by omega)
    · rw [if_pos (by omega)]; exact .inl rfl
  · rw [getD_snoc] at h1 h2 ⊢
    rw [getD_snoc]
    by_cases hq2 : q < out.length
    · rw [if_pos hq2] at h2 ⊢
      rw [if_pos (by omega)] at h1 ⊢
      exact h.inc p q hpq (by omega) h1 h2
    · rw [if_neg hq2, if_pos (by omega)] at h2
      omega
theorem MInv.some {a b out : List Int} {i j : Nat} (h : MInv a b out i j) (hi : i < a.length) (hj : j < b.length) (he : a.getD i 0 = b.getD j 0) : MInv a b (out ++ [(j : Int)]) (i + 1) (j + 1) := by
  have hl := h.len
  refine ⟨by simp [hl], hi, hj, fun q hq => ?_, fun p q hpq hq h1 h2 => ?_⟩
  · rw [getD_snoc]
    split
    · rcases h.val q (by omega) with h1 | ⟨h1, h2, h3⟩
      · exact .inl h1
      · exact .inr ⟨h1, by omega, h3⟩
    · rw [if_pos (by omega)]
      obtain rfl : q = i := by omega
      exact .inr ⟨by omega, by omega, by rw [Int.toNat_natCast]; exact he⟩
  · rw [getD_snoc] at h1 h2 ⊢
    rw [getD_snoc]
    by_cases hq2 : q < out.length
    · rw [if_pos hq2] at h2 ⊢
      rw [if_pos (by omega)] at h1 ⊢
      exact h.inc p q hpq (by omega) h1 h2
    · rw [if_neg hq2, if_pos (by omega)]
      rw [if_pos (by omega)] at h1 ⊢
      rcases h.val p (by omega) with h3 | ⟨h3, h4, _⟩
      · omega
      · exact h4
theorem MInv.more {a b out : List Int} {i j j' : Nat} (h : MInv a b out i j) (hj : j ≤ j') (hb : j' ≤ b.length) : MInv a b out i j' :=
  ⟨h.len, h.ia, hb, fun q hq => by rcases h.val q hq with h1 | ⟨h1, h2, h3⟩
                                   · exact .inl h1
                                   · exact .inr ⟨h1, by omega, h3⟩, h.inc⟩
set_option maxHeartbeats 2000000 in
theorem match_l (a b : List Int) (ha : a.length ≤ 100) (hb : b.length ≤ 100) (t : List Int) (ht0 : t.length = (a.length + 1) * (b.length + 1)) : ∀ k,
    (∀ i j out, MInv a b out i j → 2 * (a.length - i) + (b.length - j) + 1 ≤ k → ∃ out', sennitref03_Match.l0 k a b t ((b.length + 1 : Nat) : Int) out (j : Int) (i : Int) = some out' ∧ MInv a b out' a.length b.length) ∧
    (∀ i j out, MInv a b out i j → i < a.length → 2 * (a.length - i) + (b.length - j) ≤ k → ∃ out', sennitref03_Match.l1 k a b t ((b.length + 1 : Nat) : Int) out (j : Int) (i : Int) (-1) = some out' ∧ MInv a b out' a.length b.length) := by
  intro k
  induction k with
  | zero => exact ⟨fun i j out h hk => by omega, fun i j out h hi hk => by omega⟩
  | succ k ih =>
    refine ⟨fun i j out h hk => ?_, fun i j out h hi hk => ?_⟩
    · rw [sennitref03_Match.l0]
      by_cases hi : i < a.length
      · rw [if_pos (by omega)]
        exact ih.2 i j out h hi (by omega)
      · rw [if_neg (by omega)]
        obtain rfl : i = a.length := by have := h.ia; omega
        exact ⟨out, rfl, h.more h.jb (Nat.le_refl _)⟩
    · have hlen := h.len
      obtain ⟨p, q, L, hL, hq, hqL, hL2, e1, e2⟩ := tab_facts a.length b.length i hi ha hb
      have ht := ht0
      rw [hL] at ht
      clear ht0 hL
      have hjb := h.jb
      have ho : out.length < 17592186044416 := by omega
      have none_ : ∃ out', sennitref03_Match.l0 k a b t ((b.length + 1 : Nat) : Int) (out ++ [-1]) (j : Int) ((i + 1 : Nat) : Int) = some out' ∧ MInv a b out' a.length b.length := ih.1 (i + 1) j _ (h.none hi) (by omega)
      by_cases hj : j < b.length
      · have some_ : a.getD i 0 = b.getD j 0 → ∃ out', sennitref03_Match.l0 k a b t ((b.length + 1 : Nat) : Int) (out ++ [(j : Int)]) ((j + 1 : Nat) : Int) ((i + 1 : Nat) : Int) = some out' ∧ MInv a b out' a.length b.length := fun he => ih.1 (i + 1) (j + 1) _ (h.some hi hj he) (by omega)
        have more_ : ∃ out', sennitref03_Match.l1 k a b t ((b.length + 1 : Nat) : Int) out ((j + 1 : Nat) : Int) (i : Int) (-1) = some out' ∧ MInv a b out' a.length b.length := ih.2 i (j + 1) out (h.more (by omega) hj) hi (by omega)
        have c1 : (j : Int) < (b.length : Int) := by omega
        have c2 : (0 : Int) ≤ (i : Int) := by omega
        have c3 : (i : Int) < (a.length : Int) := by omega
        have c4 : (0 : Int) ≤ (j : Int) := by omega
        have c5 : (0 : Int) ≤ ((q + j : Nat) : Int) := by omega
        have c6 : ((q + j : Nat) : Int) < (t.length : Int) := by omega
        have c7 : (0 : Int) ≤ ((p + j + 1 : Nat) : Int) := by omega
        have c8 : ((p + j + 1 : Nat) : Int) < (t.length : Int) := by omega
        have y6 : ((i : Int) + 1) = ((i + 1 : Nat) : Int) := by omega
        obtain ⟨x1, x2, x3, y1, y2, y3, y4, y5⟩ := tab_wraps p q j b.length i hq (by omega) (by omega) (by omega) e1 e2
        rw [sennitref03_Match.l1, rd_at, rd_at, x1, x2, x3, y1, y2, y3, y5, y6]
        clear x1 x2 x3 y1 y2 y3 y4 y5 e1 e2
        rw [if_pos c1, if_pos c2, if_pos c3, if_pos c4]
        by_cases he : a.getD i 0 = b.getD j 0
        · rw [if_pos he, if_pos ho]
          exact some_ he
        · rw [if_neg he, if_pos c5, if_pos c6, if_pos c7, if_pos c8]
          split
          · exact more_
          · try rw [if_pos ho]
            exact none_
      · have c1 : ¬ ((j : Int) < (b.length : Int)) := by omega
        rw [sennitref03_Match.l1, if_neg c1, if_pos ho, w1 (by omega)]
        exact none_
def matchF (a b : List Int) : List Int := (sennitref03_Match.f 21000 a b).getD []
theorem match_f (a b : List Int) (ha : a.length ≤ 100) (hb : b.length ≤ 100) : MInv a b (matchF a b) a.length b.length ∧ ∀ k, 21000 ≤ k → sennitref03_Match.f k a b = some (matchF a b) := by
  obtain ⟨t, ht, hr⟩ := rest_f a b ha hb 21000 (by omega)
  obtain ⟨out', h1, h2⟩ := (match_l a b ha hb t ht 21000).1 0 0 [] ⟨rfl, Nat.zero_le _, Nat.zero_le _, fun q h => by omega, fun p q _ h => by omega⟩ (by omega)
  have x2 : wrap64 ((b.length : Int) + 1) = ((b.length + 1 : Nat) : Int) := w1 (by omega)
  have e : sennitref03_Match.f 21000 a b = some out' := by
    unfold sennitref03_Match.f
    rw [hr, Option.bind_some, x2]
    exact h1
  have e2 : matchF a b = out' := by unfold matchF; rw [e]; rfl
  rw [e2]
  exact ⟨h2, fun k hk => leO_le (fun k => sennitref03_Match.mono a b k) hk e⟩
/-- The matches of a base with sides. -/
def matchesF (a : List Int) (l : List (List Int)) : List (List Int) := l.map (matchF a)
def sizesF (l : List (List Int)) : List Int := l.map fun y => (y.length : Int)
theorem matches_l0 (a : List Int) (l : List (List Int)) (ha : a.length ≤ 100) (hl : l.length ≤ 1000) (hx : ∀ y ∈ l, y.length ≤ 100) : ∀ d i k, i + d = l.length → 21001 + d < k → sennitref05_Matches.l0 k a l (sizesF (l.take i)) (matchesF a (l.take i)) (i : Int) = some (sizesF l, matchesF a l) := by
  intro d
  induction d with
  | zero =>
    intro i k hi hk
    obtain ⟨k, rfl⟩ : ∃ q, k = q + 1 := ⟨k - 1, by omega⟩
    rw [sennitref05_Matches.l0, if_neg (by omega), List.take_of_length_le (by omega)]
  | succ d ih =>
    intro i k hi hk
    have hlt : i < l.length := by omega
    obtain ⟨k, rfl⟩ : ∃ q, k = q + 1 := ⟨k - 1, by omega⟩
    have hr : rd_L1 l (i : Int) = l[i] := by simp [rd_L1, List.getD_eq_getElem?_getD, hlt]
    have hih := ih (i + 1) k (by omega) (by omega)
    rw [take_snoc l i _ (List.getElem?_eq_getElem hlt)] at hih
    unfold sizesF matchesF at hih ⊢
    rw [List.map_append, List.map_append] at hih
    rw [sennitref05_Matches.l0, if_pos (by omega), if_pos (by omega), hr, if_pos (by simp; omega), (match_f a l[i] ha (hx _ (List.getElem_mem hlt))).2 k (by omega), Option.bind_some, if_pos (by simp; omega), w1 (by omega)]
    exact hih
theorem matches_f (a : List Int) (l : List (List Int)) (ha : a.length ≤ 100) (hl : l.length ≤ 1000) (hx : ∀ y ∈ l, y.length ≤ 100) (k : Nat) (hk : 23000 ≤ k) : sennitref05_Matches.f k a l = some (sizesF l, matchesF a l) := matches_l0 a l ha hl hx l.length 0 k (by omega) (by omega)
end Go.Proofs.Ytnebadlakmlkkaa.Pure
namespace Go.Proofs.Ytnebadlakmlkkaa.Pure
open Go.RowKit Go.Proofs.Ytnebadlakmlkkaa.M Go.Proofs.Ytnebadlakmlkkaa.Hand Go.Proofs.YtnebadlakmlkkaaW.PrintWords Go.Proofs.YtnebadlakmlkkaaW.PrintLast Go.Proofs.YtnebadlakmlkkaaW.PrintMore
set_option linter.unusedVariables false

/-- A match of m places to n. -/
structure MOk (l : List Int) (n : Int) : Prop where
  n0 : 0 ≤ n
  low : ∀ q < l.length, -1 ≤ l.getD q 0
  high : ∀ q < l.length, l.getD q 0 < n
  inc : ∀ p q, p < q → q < l.length → 0 ≤ l.getD p 0 → 0 ≤ l.getD q 0 → l.getD p 0 < l.getD q 0
theorem mayA_l0 (l : List Int) (n : Int) (h : MOk l n) (hl : l.length ≤ 1000000) : ∀ d i k last, i + d = l.length → d < k → -1 ≤ last → (last = -1 ∨ ∃ p, p < i ∧ l.getD p 0 = last) → (∀ p < i, l.getD p 0 ≤ last) →
    align_may.l0 k l (l.length : Int) n last l (l.length : Int) (i : Int) = some true := by
  intro d
  induction d with
  | zero =>
    intro i k last hi hk _ _ _
    obtain ⟨k, rfl⟩ : ∃ q, k = q + 1 := ⟨k - 1, by omega⟩
    rw [align_may.l0, if_neg (by omega), if_pos rfl, decide_eq_true h.n0]
  | succ d ih =>
    intro i k last hi hk h1 h2 h3
    obtain ⟨k, rfl⟩ : ∃ q, k = q + 1 := ⟨k - 1, by omega⟩
    have hlt : i < l.length := by omega
    have a1 := h.low i hlt
    have a2 := h.high i hlt
    rw [align_may.l0, if_pos (by omega), if_pos (by omega), if_pos (by omega), rd_at, if_neg (by omega), if_neg (by omega), w1 (by omega)]
    by_cases hx : l.getD i 0 ≥ 0
    · have hlast : last < l.getD i 0 := by
        rcases h2 with h2 | ⟨p, hp, h2⟩
        · omega
        · by_cases h0 : 0 ≤ last
          · have := h.inc p i hp hlt (by omega) hx
            omega
          · omega
      rw [if_pos hx, if_neg (by omega)]
      have hm : mx last (l.getD i 0) = l.getD i 0 := by unfold mx; rw [if_pos hlast]
      rw [hm]
      refine ih (i + 1) k _ (by omega) (by omega) (by omega) (.inr ⟨i, by omega, rfl⟩) fun p hp => ?_
      rcases Nat.lt_or_ge p i with h4 | h4
      · have := h3 p h4; omega
      · obtain rfl : p = i := by omega
        exact Int.le_refl _
    · rw [if_neg hx]
      have hm : mx last (l.getD i 0) = last := by unfold mx; rw [if_neg (by omega)]
      rw [hm]
      refine ih (i + 1) k _ (by omega) (by omega) h1 (by rcases h2 with h2 | ⟨p, hp, h2⟩; exact .inl h2; exact .inr ⟨p, by omega, h2⟩) fun p hp => ?_
      rcases Nat.lt_or_ge p i with h4 | h4
      · exact h3 p h4
      · obtain rfl : p = i := by omega
        omega
theorem mayA_f (l : List Int) (n : Int) (h : MOk l n) (hl : l.length ≤ 1000000) (k : Nat) (hk : l.length < k) : align_may.f k l (l.length : Int) n = some true := mayA_l0 l n h hl l.length 0 k (-1) (by omega) hk (by omega) (.inl rfl) (fun p hp => by omega)
theorem MInv.ok {a b out : List Int} (h : MInv a b out a.length b.length) : MOk out (b.length : Int) := by
  have hl := h.len
  refine ⟨by omega, fun q hq => ?_, fun q hq => ?_, fun p q hpq hq h1 h2 => h.inc p q hpq (by omega) h1 h2⟩
  · rcases h.val q (by omega) with h1 | ⟨h1, _, _⟩ <;> omega
  · rcases h.val q (by omega) with h1 | ⟨_, h1, _⟩ <;> omega

/-- Lists as Few lets them in. -/
structure Small5 (a : List Int) (l : List (List Int)) : Prop where
  a30 : a.length ≤ 30
  l1 : 1 ≤ l.length
  l7 : l.length ≤ 7
  y30 : ∀ y ∈ l, y.length ≤ 30
theorem matchesF_len (a : List Int) (l : List (List Int)) : (matchesF a l).length = l.length := by simp [matchesF]
theorem sizesF_len (l : List (List Int)) : (sizesF l).length = l.length := by simp [sizesF]
theorem matchesF_at (a : List Int) (l : List (List Int)) (i : Nat) (h : i < l.length) : (matchesF a l).getD i [] = matchF a (l.getD i []) := by unfold matchesF; exact map_getD _ [] [] l i h
theorem sizesF_at (l : List (List Int)) (i : Nat) (h : i < l.length) : (sizesF l).getD i 0 = ((l.getD i []).length : Int) := by unfold sizesF; exact map_getD _ [] 0 l i h
theorem Small5.inv {a : List Int} {l : List (List Int)} (h : Small5 a l) (i : Nat) (hi : i < l.length) : MInv a (l.getD i []) (matchF a (l.getD i [])) a.length (l.getD i []).length :=
  (match_f a _ (by have := h.a30; omega) (by have := h.y30 _ (getD_mem l [] i hi); omega)).1
/-- The matches are as they must be. -/
theorem Small5.okM {a : List Int} {l : List (List Int)} (h : Small5 a l) : OkM (matchesF a l) a.length (sizesF l) := by
  refine ⟨by rw [matchesF_len, sizesF_len], by rw [matchesF_len]; exact h.l1, fun i hi => ?_, fun i hi k hk => ?_, fun i hi k hk => ?_, fun i hi => ?_, fun i hi j k hjk hk h1 h2 => ?_⟩
  all_goals rw [matchesF_len] at hi
  · rw [matchesF_at _ _ _ hi]; exact (h.inv i hi).len
  · unfold mm
    rw [matchesF_at _ _ _ hi]
    exact (h.inv i hi).ok.low k (by rw [(h.inv i hi).len]; exact hk)
  · unfold mm
    rw [matchesF_at _ _ _ hi, sizesF_at _ _ hi]
    exact (h.inv i hi).ok.high k (by rw [(h.inv i hi).len]; exact hk)
  · rw [sizesF_at _ _ hi]; omega
  · unfold mm at h1 h2 ⊢
    rw [matchesF_at _ _ _ hi] at h1 h2 ⊢
    exact (h.inv i hi).ok.inc j k hjk (by rw [(h.inv i hi).len]; exact hk) h1 h2
theorem Small5.okAl {a : List Int} {l : List (List Int)} (h : Small5 a l) : okAl (a.length : Int) (sizesF l) (matchesF a l) = true := by
  have h1 := h.a30
  have h2 := h.l1
  have h3 := h.l7
  simp only [M.okAl, Bool.and_eq_true, decide_eq_true_eq, List.all_eq_true, List.mem_range]
  refine ⟨⟨⟨by omega, by omega, by rw [matchesF_len]; exact h2, by rw [matchesF_len]; omega, by rw [matchesF_len, sizesF_len]⟩, fun y hy => ?_⟩, fun i hi => ?_⟩
  · obtain ⟨i, hi, rfl⟩ := mem_getD _ [] y hy
    rw [matchesF_len] at hi
    rw [matchesF_at _ _ _ hi]
    have hv := h.inv i hi
    refine ⟨by rw [hv.len], fun x hx => ?_⟩
    obtain ⟨q, hq, rfl⟩ := mem_getD _ 0 x hx
    have b1 := hv.ok.low q hq
    have b2 := hv.ok.high q hq
    have b3 := h.y30 _ (getD_mem l [] i hi)
    omega
  · rw [matchesF_len] at hi
    rw [matchesF_at _ _ _ hi, sizesF_at _ _ hi]
    have hv := h.inv i hi
    have := mayA_f _ _ hv.ok (by rw [hv.len]; omega) 3000 (by rw [hv.len]; omega)
    rwa [hv.len] at this
def cutF (a : List Int) (l : List (List Int)) : List S39 := alignG (matchesF a l) a.length (sizesF l)
theorem byte_ok {l : List Int} (h : ∀ x ∈ l, (Lit.int .u8 x).wf = true) : ∀ x ∈ l, 0 ≤ x ∧ x ≤ 1000000 := fun x hx => by
  have := h x hx
  simp [Lit.wf, IntKind.min, IntKind.max, IntKind.signed, IntKind.bits] at this
  omega
structure Bytes5 (a : List Int) (l : List (List Int)) : Prop where
  a : ∀ x ∈ a, 0 ≤ x ∧ x ≤ 1000000
  l : ∀ y ∈ l, ∀ x ∈ y, 0 ≤ x ∧ x ≤ 1000000
theorem cut_f {a : List Int} {l : List (List Int)} (h : Small5 a l) (hb : Bytes5 a l) (k : Nat) (hk : 25000 ≤ k) : sennitlaw05_cut.f k a l = some (cutF a l) := by
  have h1 := h.a30
  have h2 := h.l1
  have h3 := h.l7
  unfold sennitlaw05_cut.f
  rw [ints_f a (by omega) hb.a k (by omega), Option.bind_some, lists_f l (by omega) (fun y hy => ⟨by have := h.y30 y hy; omega, hb.l y hy⟩) k (by omega), Option.bind_some,
    matches_f a l (by omega) (by omega) (fun y hy => by have := h.y30 y hy; omega) k (by omega), Option.bind_some]
  have hne : matchesF a l ≠ [] := by intro e; have := congrArg List.length e; rw [matchesF_len] at this; simp at this; rw [this] at h2; simp at h2
  have e : align_Align.f k (a.length : Int) (sizesF l) (matchesF a l) = some (alignG (matchesF a l) a.length (sizesF l), 0) := by
    unfold align_Align.f
    rw [if_neg hne, if_pos h.okAl, Int.toNat_natCast]
  rw [e]
  rfl
theorem awake05 (k : Nat) (hk : 10 ≤ k) : sennitlaw05_awake.f k = some true := by
  have e1 : okAl 3 [3] [[-1, 0, 1]] = true := by decide +kernel
  have e2 : alignG [[-1, 0, 1]] (3 : Int).toNat [3] = [⟨false, ⟨0, 1⟩, [⟨0, 0⟩]⟩, ⟨true, ⟨1, 3⟩, [⟨0, 2⟩]⟩, ⟨false, ⟨3, 3⟩, [⟨2, 3⟩]⟩] := rfl
  unfold sennitlaw05_awake.f align_Align.f
  rw [if_neg (by simp), if_pos e1, e2, if_pos rfl]
  rfl
end Go.Proofs.Ytnebadlakmlkkaa.Pure
namespace Go.Proofs.Ytnebadlakmlkkaa.Pure
open Go.RowKit Go.Proofs.Ytnebadlakmlkkaa.M Go.Proofs.Ytnebadlakmlkkaa.Hand Go.Proofs.YtnebadlakmlkkaaW.PrintWords Go.Proofs.YtnebadlakmlkkaaW.PrintLast Go.Proofs.YtnebadlakmlkkaaW.PrintMore
set_option linter.unusedVariables false

/-- A chunk that may follow where b, and a, are reached: its spans alone. -/
structure Ok0 (b : Int) (a : List Int) (c : S39) : Prop where
  hb : c.f1.f0 = b
  hlen : c.f2.length = a.length
  hf : ∀ i < a.length, (c.f2.getD i z36).f0 = a.getD i 0
  hle : b ≤ c.f1.f1
  hsl : ∀ i < a.length, a.getD i 0 ≤ (c.f2.getD i z36).f1
  hne : b < c.f1.f1 ∨ ∃ i, i < a.length ∧ a.getD i 0 < (c.f2.getD i z36).f1
  hst : c.f0 = true → ∀ i < a.length, (c.f2.getD i z36).f1 - a.getD i 0 = c.f1.f1 - b
def Cov (m : Nat) (sizes : List Int) : Int → List Int → Option Bool → List S39 → Prop
  | b, a, _, [] => b = m ∧ a = sizes
  | b, a, p, c :: t => Ok0 b a c ∧ p ≠ some c.f0 ∧ Cov m sizes c.f1.f1 (tos c) (some c.f0) t
theorem fits_cov {M : List (List Int)} {m : Nat} {sizes : List Int} : ∀ (l : List S39) (b : Int) (a : List Int) (p : Option Bool), Fits M m sizes b a p l → Cov m sizes b a p l
  | [], _, _, _, h => h
  | c :: t, b, a, p, ⟨h1, h2, h3⟩ => ⟨⟨h1.hb, h1.hlen, h1.hf, h1.hle, h1.hsl, h1.hne, h1.hst⟩, h2, fits_cov t _ _ _ h3⟩
/-- What comes in fits into an int. -/
def In64 (l : List S39) : Prop := ∀ c ∈ l, c.f1.f1 ≤ 9223372036854775807 ∧ ∀ s ∈ c.f2, s.f1 ≤ 9223372036854775807
theorem wdiff {x y : Int} (h0 : 0 ≤ x) (h1 : x ≤ y) (h2 : y ≤ 9223372036854775807) : wrap64 (y - x) = y - x := by unfold wrap64; omega
theorem rd36 (l : List S36) (i : Nat) : rd_T36 l (i : Int) = l.getD i z36 := by simp [rd_T36]
theorem rd39 (l : List S39) (i : Nat) : rd_T39 l (i : Int) = l.getD i z39 := by simp [rd_T39]
def someS (b1 b2 : Int) (f2 : List S36) : Bool := decide (b1 < b2) || f2.any fun s => decide (s.f0 < s.f1)
theorem empty_l0 (s : Bool) (b1 b2 : Int) (f2 : List S36) (hl : f2.length ≤ 1000000) : ∀ d i k, i + d = f2.length → d < k → sennitref05_Empty.l0 k (decide (b1 < b2) || (f2.take i).any fun s => decide (s.f0 < s.f1)) (i : Int) s b1 b2 f2 = some (!(someS b1 b2 f2)) := by
  intro d
  induction d with
  | zero =>
    intro i k hi hk
    obtain ⟨k, rfl⟩ : ∃ q, k = q + 1 := ⟨k - 1, by omega⟩
    rw [sennitref05_Empty.l0, if_neg (by omega), List.take_of_length_le (by omega)]
    rfl
  | succ d ih =>
    intro i k hi hk
    obtain ⟨k, rfl⟩ : ∃ q, k = q + 1 := ⟨k - 1, by omega⟩
    have hlt : i < f2.length := by omega
    have hih := ih (i + 1) k (by omega) (by omega)
    rw [take_snoc f2 i _ (getD_at f2 z36 i hlt), List.any_append, ← Bool.or_assoc] at hih
    have e : ([f2.getD i z36].any fun s => decide (s.f0 < s.f1)) = decide ((f2.getD i z36).f0 < (f2.getD i z36).f1) := by simp
    rw [e] at hih
    rw [sennitref05_Empty.l0, if_pos (by omega), w1 (by omega), rd36]
    generalize (decide (b1 < b2) || (f2.take i).any fun s => decide (s.f0 < s.f1)) = x at hih ⊢
    cases x with
    | true => rw [if_pos rfl]; exact hih
    | false => rw [if_neg (by decide), if_pos (by omega)]; rw [Bool.false_or] at hih; exact hih
theorem empty_f (s : Bool) (b1 b2 : Int) (f2 : List S36) (hl : f2.length ≤ 1000000) (k : Nat) (hk : f2.length < k) : sennitref05_Empty.f k s b1 b2 f2 = some (!(someS b1 b2 f2)) := by
  have := empty_l0 s b1 b2 f2 hl f2.length 0 k (by omega) hk
  unfold sennitref05_Empty.f
  simpa using this
theorem someS_iff (b1 b2 : Int) (f2 : List S36) : someS b1 b2 f2 = true ↔ (b1 < b2 ∨ ∃ i, i < f2.length ∧ (f2.getD i z36).f0 < (f2.getD i z36).f1) := by
  unfold someS
  simp only [Bool.or_eq_true, decide_eq_true_eq, List.any_eq_true]
  refine or_congr Iff.rfl ⟨?_, ?_⟩
  · rintro ⟨x, hx, h⟩
    obtain ⟨i, hi, rfl⟩ := mem_getD f2 z36 x hx
    exact ⟨i, hi, h⟩
  · rintro ⟨i, hi, h⟩
    exact ⟨_, getD_mem f2 z36 i hi, h⟩
def SideOk (s : Bool) (from_ tt : Int) (a : List Int) (f2 : List S36) (q : Nat) : Prop := (f2.getD q z36).f0 = a.getD q 0 ∧ a.getD q 0 ≤ (f2.getD q z36).f1 ∧ (s = true → (f2.getD q z36).f1 - a.getD q 0 = tt - from_)
theorem cov_l1 (l : List S39) (m : Nat) (sizes a : List Int) (s : Bool) (from_ tt : Int) (f2 : List S36) (x9 : Nat) (P0 : Prop) (K : Nat) (hn : sizes.length ≤ 1000) (ha : a.length = sizes.length) (hf : f2.length = sizes.length) (ha0 : ∀ q < a.length, 0 ≤ a.getD q 0) (hf64 : ∀ s ∈ f2, s.f1 ≤ 9223372036854775807) (h0 : 0 ≤ from_) (h1 : from_ ≤ tt) (h2 : tt ≤ 9223372036854775807)
    (hx9 : x9 ≤ 1000000) (H : (∀ q, q < sizes.length → SideOk s from_ tt a f2 q) → ∀ k, K ≤ k → ∃ r, sennitlaw05_covers.l0 k l (m : Int) sizes tt (f2.map fun s => s.f1) ((x9 + 1 : Nat) : Int) = some r ∧ (r = true ↔ P0)) : ∀ d i k, i + d = sizes.length → K + d + 1 ≤ k → (∀ q, q < i → SideOk s from_ tt a f2 q) →
    ∃ r, sennitlaw05_covers.l1 k l (m : Int) sizes tt (mixL a (f2.map fun s => s.f1) i) (x9 : Int) (i : Int) s from_ tt f2 = some r ∧ (r = true ↔ ((∀ q, i ≤ q → q < sizes.length → SideOk s from_ tt a f2 q) ∧ P0)) := by
  intro d
  induction d with
  | zero =>
    intro i k hi hk hpre
    obtain ⟨k, rfl⟩ : ∃ q, k = q + 1 := ⟨k - 1, by omega⟩
    obtain ⟨r, hr, hP⟩ := H (fun q hq => hpre q (by omega)) k (by omega)
    have hm : mixL a (f2.map fun s => s.f1) i = f2.map fun s => s.f1 := by
      unfold mixL
      rw [List.drop_of_length_le (by omega), List.append_nil, List.take_of_length_le (by simp; omega)]
    rw [sennitlaw05_covers.l1, if_neg (by omega), w1 hx9, hm]
    exact ⟨r, hr, hP.trans ⟨fun h => ⟨fun q h1 h2 => by omega, h⟩, fun h => h.2⟩⟩
  | succ d ih =>
    intro i k hi hk hpre
    obtain ⟨k, rfl⟩ : ∃ q, k = q + 1 := ⟨k - 1, by omega⟩
    have hia : i < a.length := by omega
    have hif : i < f2.length := by omega
    have hit : i < (f2.map fun s => s.f1).length := by simp; omega
    have hmx : rd (mixL a (f2.map fun s => s.f1) i) (i : Int) = a.getD i 0 := by
      rw [rd_at, List.getD_eq_getElem?_getD, mixL_at _ _ _ hia hit]; rfl
    have hset : (mixL a (f2.map fun s => s.f1) i).set (i : Int).toNat (f2.getD i z36).f1 = mixL a (f2.map fun s => s.f1) (i + 1) := by
      rw [Int.toNat_natCast, ← mixL_set _ _ _ hia hit, map_getD (fun s : S36 => s.f1) z36 0 f2 i hif]
    have hml : i < (mixL a (f2.map fun s => s.f1) i).length := by
      have := mixL_at a (f2.map fun s => s.f1) i hia hit
      exact (List.getElem?_eq_some_iff.1 this).1
    have b0 := ha0 i hia
    have b1 := hf64 _ (getD_mem f2 z36 i hif)
    have hsplit : ((∀ q, i ≤ q → q < sizes.length → SideOk s from_ tt a f2 q) ∧ P0) ↔ (SideOk s from_ tt a f2 i ∧ ((∀ q, i + 1 ≤ q → q < sizes.length → SideOk s from_ tt a f2 q) ∧ P0)) := by
      constructor
      · intro h
        exact ⟨h.1 i (Nat.le_refl _) (by omega), fun q h1 h2 => h.1 q (by omega) h2, h.2⟩
      · intro h
        refine ⟨fun q h1 h2 => ?_, h.2.2⟩
        rcases Nat.lt_or_ge i q with h3 | h3
        · exact h.2.1 q h3 h2
        · obtain rfl : q = i := by omega
          exact h.1
    have no : ¬ SideOk s from_ tt a f2 i → ∃ r, some false = some r ∧ (r = true ↔ ((∀ q, i ≤ q → q < sizes.length → SideOk s from_ tt a f2 q) ∧ P0)) := fun hno => ⟨false, rfl, by rw [hsplit]; simp [hno]⟩
    rw [sennitlaw05_covers.l1, if_pos (by omega), if_pos (by omega), if_pos (by omega), if_pos (by omega), rd36, hmx, hset]
    by_cases e1 : (f2.getD i z36).f0 = a.getD i 0
    · rw [if_pos e1]
      by_cases e2 : (f2.getD i z36).f1 < (f2.getD i z36).f0
      · rw [if_pos e2]
        exact no fun h => by have := h.2.1; omega
      · rw [if_neg e2]
        have go : SideOk s from_ tt a f2 i → ∃ r, sennitlaw05_covers.l1 k l (m : Int) sizes tt (mixL a (f2.map fun s => s.f1) (i + 1)) (x9 : Int) ((i + 1 : Nat) : Int) s from_ tt f2 = some r ∧ (r = true ↔ ((∀ q, i ≤ q → q < sizes.length → SideOk s from_ tt a f2 q) ∧ P0)) := fun hy =>
          by
            obtain ⟨r, hr, hP⟩ := ih (i + 1) k (by omega) (by omega) fun q hq => by
              rcases Nat.lt_or_ge q i with h | h
              · exact hpre q h
              · obtain rfl : q = i := by omega
                exact hy
            exact ⟨r, hr, by rw [hsplit, hP]; exact ⟨fun h => ⟨hy, h⟩, fun h => h.2⟩⟩
        cases s with
        | false =>
          rw [if_neg (by decide), w1 (by omega)]
          exact go ⟨e1, by omega, by simp⟩
        | true =>
          rw [if_pos rfl]
          by_cases e3 : (f2.getD i z36).f1 - a.getD i 0 = tt - from_
          · have hgo := go ⟨e1, by omega, fun _ => e3⟩
            rw [wdiff (by omega) (by omega) (by omega), wdiff h0 h1 h2, if_pos (by omega), w1 (by omega)]
            exact hgo
          · rw [wdiff (by omega) (by omega) (by omega), wdiff h0 h1 h2, if_neg (by omega)]
            exact no fun h => e3 (h.2.2 rfl)
    · rw [if_neg e1]
      exact no fun h => e1 h.1
theorem cov_l2 (m : Nat) (sizes a : List Int) (b : Int) (ha : a.length = sizes.length) (hn : sizes.length ≤ 1000) : ∀ d i k, i + d = sizes.length → d < k → (∀ q < i, a.getD q 0 = sizes.getD q 0) →
    ∃ r, sennitlaw05_covers.l2 k (m : Int) sizes b a (i : Int) = some r ∧ (r = true ↔ (b = m ∧ a = sizes)) := by
  intro d
  induction d with
  | zero =>
    intro i k hi hk hq
    obtain ⟨k, rfl⟩ : ∃ q, k = q + 1 := ⟨k - 1, by omega⟩
    rw [sennitlaw05_covers.l2, if_neg (by omega)]
    refine ⟨_, rfl, ?_⟩
    rw [beq_iff_eq]
    exact ⟨fun h => ⟨h, ext_getD 0 _ _ ha fun q hq1 => hq q (by omega)⟩, fun h => h.1⟩
  | succ d ih =>
    intro i k hi hk hq
    obtain ⟨k, rfl⟩ : ∃ q, k = q + 1 := ⟨k - 1, by omega⟩
    rw [sennitlaw05_covers.l2, if_pos (by omega), if_pos (by omega), if_pos (by omega), rd_at, rd_at]
    by_cases e : a.getD i 0 = sizes.getD i 0
    · rw [if_pos e, w1 (by omega)]
      refine ih (i + 1) k (by omega) (by omega) fun q hq1 => ?_
      rcases Nat.lt_or_ge q i with h | h
      · exact hq q h
      · obtain rfl : q = i := by omega
        exact e
    · rw [if_neg e]
      exact ⟨false, rfl, by simp; intro _ h; exact e (by rw [h])⟩
def prevF (l : List S39) (i : Nat) : Option Bool := if i = 0 then none else some (l.getD (i - 1) z39).f0
theorem cov_l0 (l : List S39) (m : Nat) (sizes : List Int) (hn : sizes.length ≤ 100) (hl : l.length ≤ 1000) (h64 : In64 l) : ∀ d i k b a, i + d = l.length → 200 * (d + 1) ≤ k → a.length = sizes.length → 0 ≤ b → (∀ q < a.length, 0 ≤ a.getD q 0) →
    ∃ r, sennitlaw05_covers.l0 k l (m : Int) sizes b a (i : Int) = some r ∧ (r = true ↔ Cov m sizes b a (prevF l i) (l.drop i)) := by
  intro d
  induction d with
  | zero =>
    intro i k b a hi hk ha hb ha0
    obtain ⟨k, rfl⟩ : ∃ q, k = q + 1 := ⟨k - 1, by omega⟩
    rw [sennitlaw05_covers.l0, if_neg (by omega), List.drop_of_length_le (by omega)]
    exact cov_l2 m sizes a b ha (by omega) sizes.length 0 k (by omega) (by omega) (fun q h => by omega)
  | succ d ih =>
    intro i k b a hi hk ha hb ha0
    obtain ⟨k, rfl⟩ : ∃ q, k = q + 2 := ⟨k - 2, by omega⟩
    have hlt : i < l.length := by omega
    have hd : l.drop i = l.getD i z39 :: l.drop (i + 1) := by
      rw [List.drop_eq_getElem_cons hlt, List.getD_eq_getElem?_getD, List.getElem?_eq_getElem hlt]; rfl
    have hpr : prevF l (i + 1) = some (l.getD i z39).f0 := by unfold prevF; rw [if_neg (by omega)]; rfl
    have hcm := h64 _ (getD_mem l z39 i hlt)
    have hpv : (i : Int) > 0 → prevF l i = some (rd_T39 l (wrap64 ((i : Int) - 1))).f0 ∧ 0 ≤ wrap64 ((i : Int) - 1) ∧ wrap64 ((i : Int) - 1) < (l.length : Int) := fun h => by
      have e : wrap64 ((i : Int) - 1) = ((i - 1 : Nat) : Int) := by rw [wsub (by omega)]; omega
      rw [e, rd39]
      exact ⟨by unfold prevF; rw [if_neg (by omega)], by omega, by omega⟩
    have hp0 : ¬ ((i : Int) > 0) → prevF l i = none := fun h => by unfold prevF; rw [if_pos (by omega)]
    have hIH := fun k' hk' => ih (i + 1) k' (l.getD i z39).f1.f1 (tos (l.getD i z39)) (by omega) hk'
    rw [hd]
    generalize prevF l i = pv at hpv hp0 ⊢
    rw [hpr] at hIH
    rw [sennitlaw05_covers.l0, if_pos (by omega), if_pos (by omega), rd39]
    generalize l.getD i z39 = c at hIH hcm ⊢
    have stop : ∀ s f t f2, (¬ (Ok0 b a c ∧ pv ≠ some c.f0)) → ∃ r, sennitlaw05_covers.j1 (k + 1) l (m : Int) sizes a (i : Int) true s f t f2 = some r ∧ (r = true ↔ Cov m sizes b a pv (c :: l.drop (i + 1))) := fun s f t f2 hno =>
      ⟨false, by rw [sennitlaw05_covers.j1, if_pos rfl], by simp only [Cov, Bool.false_eq_true, false_iff]; exact fun h => hno ⟨h.1, h.2.1⟩⟩
    by_cases e1 : c.f1.f0 = b
    · rw [if_pos e1]
      by_cases e2 : c.f1.f1 < b
      · rw [if_pos e2]
        exact stop _ _ _ _ fun h => by have := h.1.hle; omega
      · rw [if_neg e2]
        by_cases e3 : (c.f2.length : Int) = (sizes.length : Int)
        · rw [if_pos e3]
          have hf : c.f2.length = sizes.length := by omega
          have rest : pv ≠ some c.f0 → ∃ r, ((sennitref05_Empty.f (k + 1) c.f0 c.f1.f0 c.f1.f1 c.f2).bind fun t => sennitlaw05_covers.j1 (k + 1) l (m : Int) sizes a (i : Int) t c.f0 c.f1.f0 c.f1.f1 c.f2) = some r ∧ (r = true ↔ Cov m sizes b a pv (c :: l.drop (i + 1))) := by
            intro hpn
            rw [empty_f _ _ _ _ (by omega) _ (by omega), Option.bind_some]
            cases hs : someS c.f1.f0 c.f1.f1 c.f2 with
            | false =>
              refine stop _ _ _ _ fun h => ?_
              have := h.1.hne
              rw [Bool.eq_false_iff] at hs
              refine hs ((someS_iff _ _ _).2 ?_)
              rcases this with h5 | ⟨q, hq, h5⟩
              · exact .inl (by omega)
              · exact .inr ⟨q, by omega, by rw [h.1.hf q hq]; exact h5⟩
            | true =>
              rw [Bool.not_true, sennitlaw05_covers.j1, if_neg (by decide)]
              have hto : tos c = c.f2.map fun s => s.f1 := rfl
              rw [hto] at hIH
              have hok : (∀ q, q < sizes.length → SideOk c.f0 c.f1.f0 c.f1.f1 a c.f2 q) → Ok0 b a c := fun hall => by
                refine ⟨e1, by omega, fun q hq => (hall q (by omega)).1, by omega, fun q hq => (hall q (by omega)).2.1, ?_, fun h1 q hq => by rw [← e1]; exact (hall q (by omega)).2.2 h1⟩
                rcases (someS_iff _ _ _).1 hs with h5 | ⟨q, hq, h5⟩
                · exact .inl (by omega)
                · exact .inr ⟨q, by omega, by have := (hall q (by omega)).1; omega⟩
              have H : (∀ q, q < sizes.length → SideOk c.f0 c.f1.f0 c.f1.f1 a c.f2 q) → ∀ k', 200 * (d + 1) ≤ k' → ∃ r, sennitlaw05_covers.l0 k' l (m : Int) sizes c.f1.f1 (c.f2.map fun s => s.f1) ((i + 1 : Nat) : Int) = some r ∧ (r = true ↔ Cov m sizes c.f1.f1 (tos c) (some c.f0) (l.drop (i + 1))) := fun hall k' hk' =>
                hIH k' hk' (by simp; omega) (by omega) (fun q hq => by
                  have hq' : q < c.f2.length := by simpa using hq
                  rw [map_getD (fun s : S36 => s.f1) z36 0 c.f2 q hq']
                  have h5 := (hall q (by omega)).2.1
                  have h6 := ha0 q (by omega)
                  omega)
              have := cov_l1 l m sizes a c.f0 c.f1.f0 c.f1.f1 c.f2 i _ _ (by omega) ha hf ha0 hcm.2 (by omega) (by omega) hcm.1 (by omega) H sizes.length 0 k (by omega) (by omega) (fun q hq => by omega)
              rw [show mixL a (c.f2.map fun s => s.f1) 0 = a from by simp [mixL]] at this
              obtain ⟨r, h5, h6⟩ := this
              exact ⟨r, h5, h6.trans ⟨fun h => ⟨hok fun q hq => h.1 q (Nat.zero_le _) hq, hpn, h.2⟩, fun h => ⟨fun q _ hq => ⟨h.1.hf q (by omega), h.1.hsl q (by omega), fun h1 => by rw [e1]; exact h.1.hst h1 q (by omega)⟩, h.2.2⟩⟩⟩
          by_cases e4 : (i : Int) > 0
          · obtain ⟨p1, p2, p3⟩ := hpv e4
            rw [if_pos e4, if_pos p2, if_pos p3]
            by_cases e5 : (c.f0 == (rd_T39 l (wrap64 ((i : Int) - 1))).f0) = true
            · rw [if_pos e5]
              exact stop _ _ _ _ fun h => h.2 (by rw [p1, beq_iff_eq.1 e5])
            · rw [if_neg e5]
              exact rest (by rw [p1]; intro h; injection h with h; exact e5 (by rw [h]; exact beq_self_eq_true _))
          · rw [if_neg e4]
            exact rest (by rw [hp0 e4]; simp)
        · rw [if_neg e3]
          exact stop _ _ _ _ fun h => by have := h.1.hlen; omega
    · rw [if_neg e1]
      exact stop _ _ _ _ fun h => e1 h.1.hb
/-- covers tells whether chunks cover all. -/
theorem covers_f (l : List S39) (m : Nat) (sizes : List Int) (hn : sizes.length ≤ 100) (hl : l.length ≤ 1000) (h64 : In64 l) (k : Nat) (hk : 300000 ≤ k) :
    ∃ r, sennitlaw05_covers.f k l (m : Int) sizes = some r ∧ (r = true ↔ Cov m sizes 0 (List.replicate sizes.length 0) none l) := by
  unfold sennitlaw05_covers.f
  rw [if_pos (by omega), if_pos (by rw [Int.toNat_natCast]; omega), Int.toNat_natCast]
  have := cov_l0 l m sizes hn hl h64 l.length 0 k 0 (List.replicate sizes.length 0) (by omega) (by omega) (by simp) (by omega) (fun q _ => by rw [rep_get]; exact Int.le_refl _)
  exact this
end Go.Proofs.Ytnebadlakmlkkaa.Pure
namespace Go.Proofs.Ytnebadlakmlkkaa.Pure
open Go.RowKit Go.Proofs.Ytnebadlakmlkkaa.M Go.Proofs.Ytnebadlakmlkkaa.Hand Go.Proofs.YtnebadlakmlkkaaW.PrintWords Go.Proofs.YtnebadlakmlkkaaW.PrintLast Go.Proofs.YtnebadlakmlkkaaW.PrintMore
set_option linter.unusedVariables false
theorem fits_len {M : List (List Int)} {m : Nat} {sizes : List Int} : ∀ (l : List S39) (b : Int) (a : List Int) (p : Option Bool), Fits M m sizes b a p l → (l.length : Int) ≤ 2 * (m - b) + (if p = some false then 0 else 1)
  | [], b, a, p, h => by
    obtain ⟨hb, _⟩ := h
    split <;> simp <;> omega
  | c :: t, b, a, p, ⟨h1, h2, h3⟩ => by
    have ih := fits_len t _ _ _ h3
    have hle := h1.hle
    rw [List.length_cons]
    cases hc : c.f0 with
    | true =>
      have := ok_base h1 hc
      rw [hc, if_neg (by simp)] at ih
      split <;> omega
    | false =>
      rw [hc] at h2
      rw [hc, if_pos rfl] at ih
      rw [if_neg h2]
      omega
theorem fits_in {M : List (List Int)} {m : Nat} {sizes : List Int} (hm : m ≤ 1000) (hs : ∀ x ∈ sizes, x ≤ 1000) : ∀ (l : List S39) (b : Int) (a : List Int) (p : Option Bool), Fits M m sizes b a p l → ∀ c ∈ l, c.f2.length = a.length ∧ c.f1.f1 ≤ 1000 ∧ ∀ s ∈ c.f2, s.f1 ≤ 1000
  | [], b, a, p, h, c, hc => by cases hc
  | d :: t, b, a, p, ⟨h1, h2, h3⟩, c, hc => by
    rcases List.mem_cons.1 hc with rfl | hc
    · obtain ⟨q1, q2, q3⟩ := fits_end t _ _ _ h3
      refine ⟨h1.hlen, by omega, fun s hsm => ?_⟩
      obtain ⟨i, hi, rfl⟩ := mem_getD _ z36 s hsm
      have := q3 i (by rw [tos_len]; exact hi)
      rw [tos_get _ _ hi] at this
      rw [tos_len] at q2
      have := hs _ (getD_mem sizes 0 i (by omega))
      omega
    · have := fits_in hm hs t _ _ _ h3 c hc
      rw [tos_len, h1.hlen] at this
      exact this
theorem Small5.fits {a : List Int} {l : List (List Int)} (h : Small5 a l) : Fits (matchesF a l) a.length (sizesF l) 0 (List.replicate (sizesF l).length 0) none (cutF a l) := align_fits h.okM
theorem Small5.sizes {a : List Int} {l : List (List Int)} (h : Small5 a l) : ∀ x ∈ sizesF l, x ≤ 1000 := fun x hx => by
  obtain ⟨i, hi, rfl⟩ := mem_getD _ 0 x hx
  rw [sizesF_len] at hi
  rw [sizesF_at _ _ hi]
  have := h.y30 _ (getD_mem l [] i hi)
  omega
theorem Small5.len {a : List Int} {l : List (List Int)} (h : Small5 a l) : (cutF a l).length ≤ 61 := by
  have := fits_len _ _ _ _ h.fits
  rw [if_neg (by simp)] at this
  have := h.a30
  omega
theorem Small5.in64 {a : List Int} {l : List (List Int)} (h : Small5 a l) : In64 (cutF a l) := fun c hc => by
  have := fits_in (by have := h.a30; omega) h.sizes _ _ _ _ h.fits c hc
  exact ⟨by omega, fun s hs => by have := this.2.2 s hs; omega⟩
theorem few_of {a : List Int} {l : List (List Int)} (h : a.length ≤ 30 ∧ 1 ≤ l.length ∧ l.length ≤ 6 ∧ ∀ y ∈ l, y.length ≤ 30) : Small5 a l := ⟨h.1, h.2.1, by omega, h.2.2.2⟩
theorem bytes_of {a : List Int} {l : List (List Int)} (h0 : ∀ x ∈ a, (Lit.int .u8 x).wf = true) (h1 : ∀ y ∈ l, y.length ≤ 9223372036854775807 ∧ ∀ x ∈ y, (Lit.int .u8 x).wf = true) : Bytes5 a l := ⟨byte_ok h0, fun y hy => byte_ok (h1 y hy).2⟩
end Go.Proofs.Ytnebadlakmlkkaa.Pure
namespace Go.Proofs.Ytnebadlakmlkkaa.Pure
open Go.RowKit Go.Proofs.Ytnebadlakmlkkaa.M Go.Proofs.Ytnebadlakmlkkaa.Hand Go.Proofs.YtnebadlakmlkkaaW.PrintWords Go.Proofs.YtnebadlakmlkkaaW.PrintLast Go.Proofs.YtnebadlakmlkkaaW.PrintMore
set_option linter.unusedVariables false
/-- What is known of a chunk of a list that fits. -/
structure ChF (M : List (List Int)) (m n : Nat) (c : S39) : Prop where
  b0 : 0 ≤ c.f1.f0
  bm : c.f1.f1 ≤ m
  ble : c.f1.f0 ≤ c.f1.f1
  len : c.f2.length = n
  s0 : ∀ i < n, 0 ≤ (c.f2.getD i z36).f0 ∧ (c.f2.getD i z36).f0 ≤ 1000
  hk : ∀ k : Nat, c.f1.f0 ≤ k → (k : Int) < c.f1.f1 → stabB M k = c.f0 ∧ (c.f0 = true → ∀ i < n, mm M i k = (c.f2.getD i z36).f0 + k - c.f1.f0)
theorem fits_ch {M : List (List Int)} {m : Nat} {sizes : List Int} (hs : ∀ x ∈ sizes, x ≤ 1000) : ∀ (l : List S39) (b : Int) (a : List Int) (p : Option Bool), Fits M m sizes b a p l → 0 ≤ b → (∀ i < a.length, 0 ≤ a.getD i 0) → ∀ c ∈ l, ChF M m a.length c
  | [], b, a, p, h, _, _, c, hc => by cases hc
  | d :: t, b, a, p, ⟨h1, h2, h3⟩, hb, ha, c, hc => by
    obtain ⟨q1, q2, q3⟩ := fits_end t _ _ _ h3
    rcases List.mem_cons.1 hc with rfl | hc
    · refine ⟨by rw [h1.hb]; exact hb, q1, by rw [h1.hb]; exact h1.hle, h1.hlen, fun i hi => ?_, fun k hk1 hk2 => ?_⟩
      · rw [h1.hf i hi]
        refine ⟨ha i hi, ?_⟩
        have e1 := h1.hsl i hi
        have e2 := q3 i (by rw [tos_len, h1.hlen]; exact hi)
        rw [tos_get _ _ (by rw [h1.hlen]; exact hi)] at e2
        rw [tos_len, h1.hlen] at q2
        have e3 := hs _ (getD_mem sizes 0 i (by omega))
        omega
      · rw [h1.hb] at hk1 ⊢
        obtain ⟨e1, e2⟩ := h1.hk k hk1 hk2
        exact ⟨e1, fun hc i hi => by rw [h1.hf i hi]; exact e2 hc i hi⟩
    · have := fits_ch hs t _ _ _ h3 (Int.le_trans hb h1.hle) (fun i hi => by
        rw [tos_len] at hi
        rw [tos_get _ _ hi]
        rw [h1.hlen] at hi
        have e1 := h1.hsl i hi
        have e2 := ha i hi
        omega) c hc
      rwa [tos_len, h1.hlen] at this
theorem Small5.ch {a : List Int} {l : List (List Int)} (h : Small5 a l) : ∀ c ∈ cutF a l, ChF (matchesF a l) a.length l.length c := fun c hc => by
  have := fits_ch h.sizes _ _ _ _ h.fits (Int.le_refl _) (fun i hi => by rw [rep_get]; exact Int.le_refl _) c hc
  rwa [List.length_replicate, sizesF_len] at this
def allP (M : List (List Int)) (k s : Nat) : Bool := (M.take s).all fun l => decide (l.getD k 0 ≥ 0)
theorem allP_succ (M : List (List Int)) (k s : Nat) (h : s < M.length) : allP M k (s + 1) = (allP M k s && decide (mm M s k ≥ 0)) := by
  unfold allP mm
  exact all_take_succ _ M s _ (getD_at M [] s h)
theorem allP_end (M : List (List Int)) (k : Nat) : allP M k M.length = stabB M k := by
  unfold allP stabB
  rw [List.take_length]
  refine List.all_congr rfl fun l => ?_
  by_cases h : l.getD k 0 < 0
  · rw [decide_eq_true h, decide_eq_false (by omega)]; rfl
  · rw [decide_eq_false h, decide_eq_true (by omega)]; rfl
/-- A place of a side, as Go reckons it. -/
theorem wplace {x : Int} {k : Nat} {b : Int} (h0 : 0 ≤ x) (h1 : x ≤ 1000) (h2 : k ≤ 1000) (h3 : 0 ≤ b) (h4 : b ≤ k) : wrap64 (wrap64 (x + (k : Int)) - b) = x + k - b := by
  rw [show wrap64 (x + (k : Int)) = x + k from wsm (by omega) (by omega)]
  exact wsm (by omega) (by omega)
end Go.Proofs.Ytnebadlakmlkkaa.Pure
namespace Go.Proofs.Ytnebadlakmlkkaa.Pure
open Go.RowKit Go.Proofs.Ytnebadlakmlkkaa.M Go.Proofs.Ytnebadlakmlkkaa.Hand Go.Proofs.YtnebadlakmlkkaaW.PrintWords Go.Proofs.YtnebadlakmlkkaaW.PrintLast Go.Proofs.YtnebadlakmlkkaaW.PrintMore
set_option linter.unusedVariables false
/-- A list told by places of another. -/
def reL {α : Type} (idx : List Nat) (d : α) (l : List α) : List α := idx.map fun j => l.getD j d
def reC (idx : List Nat) (c : S39) : S39 := ⟨c.f0, c.f1, reL idx z36 c.f2⟩
/-- Places that are all there. -/
structure IdxOk (idx : List Nat) (n : Nat) : Prop where
  lt : ∀ j ∈ idx, j < n
  all : ∀ j < n, j ∈ idx
theorem reL_len {α : Type} (idx : List Nat) (d : α) (l : List α) : (reL idx d l).length = idx.length := by simp [reL]
theorem reL_at {α : Type} (idx : List Nat) (d : α) (l : List α) (q : Nat) (h : q < idx.length) : (reL idx d l).getD q d = l.getD (idx.getD q 0) d := map_getD _ 0 d idx q h
theorem IdxOk.at {idx : List Nat} {n : Nat} (h : IdxOk idx n) (q : Nat) (hq : q < idx.length) : idx.getD q 0 < n := h.lt _ (getD_mem idx 0 q hq)
theorem IdxOk.of {idx : List Nat} {n : Nat} (h : IdxOk idx n) (j : Nat) (hj : j < n) : ∃ q, q < idx.length ∧ idx.getD q 0 = j := mem_getD idx 0 j (h.all j hj)
theorem re_tos {idx : List Nat} {n : Nat} (h : IdxOk idx n) (c : S39) (hc : c.f2.length = n) : tos (reC idx c) = reL idx 0 (tos c) := by
  have hl : (reC idx c).f2.length = idx.length := reL_len idx z36 c.f2
  refine ext_getD 0 _ _ (by rw [tos_len, hl, reL_len]) fun q hq => ?_
  rw [tos_len, hl] at hq
  rw [tos_get _ _ (by rw [hl]; exact hq), reL_at _ _ _ _ hq, tos_get _ _ (by rw [hc]; exact h.at q hq)]
  show ((reL idx z36 c.f2).getD q z36).f1 = _
  rw [reL_at _ _ _ _ hq]
theorem re_stab {idx : List Nat} {M : List (List Int)} (h : IdxOk idx M.length) (k : Nat) : stabB (reL idx [] M) k = stabB M k := by
  have : (stabB (reL idx [] M) k = true) ↔ (stabB M k = true) := by
    rw [stab_iff, stab_iff, reL_len]
    constructor
    · intro h1 j hj
      obtain ⟨q, hq, rfl⟩ := h.of j hj
      have := h1 q hq
      unfold mm at this ⊢
      rwa [reL_at _ _ _ _ hq] at this
    · intro h1 q hq
      unfold mm
      rw [reL_at _ _ _ _ hq]
      exact h1 _ (h.at q hq)
  exact Bool.eq_iff_iff.2 this
theorem re_ok {idx : List Nat} {M : List (List Int)} {b : Int} {a : List Int} {c : S39} (h : IdxOk idx M.length) (ha : a.length = M.length) (hc : Ok1 M b a c) : Ok1 (reL idx [] M) b (reL idx 0 a) (reC idx c) := by
  have hl : (reC idx c).f2.length = idx.length := reL_len idx z36 c.f2
  have hg : ∀ q, q < idx.length → (reC idx c).f2.getD q z36 = c.f2.getD (idx.getD q 0) z36 := fun q hq => reL_at idx z36 c.f2 q hq
  have hlt : ∀ q, q < idx.length → idx.getD q 0 < a.length := fun q hq => by rw [ha]; exact h.at q hq
  refine ⟨hc.hb, by rw [hl, reL_len], fun q hq => ?_, hc.hle, fun q hq => ?_, ?_, fun hs q hq => ?_, fun k k1 k2 => ?_⟩
  · rw [reL_len] at hq
    rw [hg q hq, reL_at _ _ _ _ hq]
    exact hc.hf _ (hlt q hq)
  · rw [reL_len] at hq
    rw [hg q hq, reL_at _ _ _ _ hq]
    exact hc.hsl _ (hlt q hq)
  · rcases hc.hne with h5 | ⟨j, hj, h5⟩
    · exact .inl h5
    · obtain ⟨q, hq, rfl⟩ := h.of j (by rw [← ha]; exact hj)
      exact .inr ⟨q, by rw [reL_len]; exact hq, by rw [hg q hq, reL_at _ _ _ _ hq]; exact h5⟩
  · rw [reL_len] at hq
    rw [hg q hq, reL_at _ _ _ _ hq]
    exact hc.hst hs _ (hlt q hq)
  · obtain ⟨e1, e2⟩ := hc.hk k k1 k2
    refine ⟨by rw [re_stab h]; exact e1, fun hs q hq => ?_⟩
    rw [reL_len] at hq
    have := e2 hs _ (hlt q hq)
    unfold mm at this ⊢
    rw [reL_at _ _ _ _ hq, reL_at _ _ _ _ hq]
    exact this
theorem re_fits {idx : List Nat} {M : List (List Int)} {m : Nat} {sizes : List Int} (h : IdxOk idx M.length) : ∀ (l : List S39) (b : Int) (a : List Int) (p : Option Bool), a.length = M.length → Fits M m sizes b a p l → Fits (reL idx [] M) m (reL idx 0 sizes) b (reL idx 0 a) p (l.map (reC idx))
  | [], b, a, p, ha, hf => by
    obtain ⟨rfl, rfl⟩ := hf
    exact ⟨rfl, rfl⟩
  | c :: t, b, a, p, ha, hf => by
    obtain ⟨h1, h2, h3⟩ := hf
    have hlen : c.f2.length = M.length := h1.hlen.trans ha
    refine ⟨re_ok h ha h1, h2, ?_⟩
    rw [re_tos h c hlen]
    exact re_fits h t _ _ _ (by rw [tos_len]; exact hlen) h3
theorem re_rep (idx : List Nat) (n : Nat) : reL idx 0 (List.replicate n (0 : Int)) = List.replicate idx.length 0 := by
  refine ext_getD 0 _ _ (by rw [reL_len]; simp) fun q hq => ?_
  rw [reL_len] at hq
  rw [reL_at _ _ _ _ hq, rep_get, rep_get]
theorem re_matches {idx : List Nat} (base : List Int) (sides : List (List Int)) (h : IdxOk idx sides.length) : matchesF base (reL idx [] sides) = reL idx [] (matchesF base sides) := by
  unfold reL
  rw [show matchesF base (idx.map fun j => sides.getD j []) = idx.map (fun j => matchF base (sides.getD j [])) from by unfold matchesF; rw [List.map_map]; rfl]
  refine List.map_congr_left fun j hj => ?_
  rw [matchesF_at _ _ _ (h.lt j hj)]
theorem re_sizes {idx : List Nat} (sides : List (List Int)) (h : IdxOk idx sides.length) : sizesF (reL idx [] sides) = reL idx 0 (sizesF sides) := by
  unfold reL
  rw [show sizesF (idx.map fun j => sides.getD j []) = idx.map (fun j => ((sides.getD j []).length : Int)) from by unfold sizesF; rw [List.map_map]; rfl]
  refine List.map_congr_left fun j hj => ?_
  rw [sizesF_at _ _ (h.lt j hj)]
/-- Sides told by places: the chunks' sides are told so. -/
theorem re_cut {idx : List Nat} {base : List Int} {sides : List (List Int)} (hs : Small5 base sides) (h : IdxOk idx sides.length) (hs' : Small5 base (reL idx [] sides)) : cutF base (reL idx [] sides) = (cutF base sides).map (reC idx) := by
  have h' : IdxOk idx (matchesF base sides).length := by rw [matchesF_len]; exact h
  have f1 := re_fits h' _ _ _ _ (by rw [List.length_replicate, sizesF_len, matchesF_len]) hs.fits
  have f2 := hs'.fits
  rw [re_matches base sides h, re_sizes sides h] at f2
  rw [re_rep] at f1
  rw [reL_len] at f2
  exact fits_uniq _ _ 0 _ _ _ f2 f1
theorem re_small {idx : List Nat} {base : List Int} {sides : List (List Int)} (hs : Small5 base sides) (h : IdxOk idx sides.length) (h1 : 1 ≤ idx.length) (h7 : idx.length ≤ 7) : Small5 base (reL idx [] sides) :=
  ⟨hs.a30, by rw [reL_len]; exact h1, by rw [reL_len]; exact h7, fun y hy => by
    obtain ⟨q, hq, rfl⟩ := mem_getD _ [] y hy
    rw [reL_len] at hq
    rw [reL_at _ _ _ _ hq]
    exact hs.y30 _ (getD_mem sides [] _ (h.at q hq))⟩
def idxT (N n : Nat) : List Nat := (List.range N).map fun k => (k + n) % N
def idxM (N n : Nat) : List Nat := List.range N ++ [n]
theorem idxT_ok (N n : Nat) (h : n < N) : IdxOk (idxT N n) N := by
  refine ⟨fun j hj => ?_, fun j hj => ?_⟩
  · obtain ⟨k, _, rfl⟩ := List.mem_map.1 hj
    exact Nat.mod_lt _ (by omega)
  · refine List.mem_map.2 ⟨(j + (N - n)) % N, List.mem_range.2 (Nat.mod_lt _ (by omega)), ?_⟩
    by_cases hc : j + (N - n) < N
    · rw [Nat.mod_eq_of_lt hc, show j + (N - n) + n = j + N by omega, Nat.add_mod_right, Nat.mod_eq_of_lt hj]
    · rw [show j + (N - n) = (j - n) + N by omega, Nat.add_mod_right, Nat.mod_eq_of_lt (show j - n < N by omega), show j - n + n = j by omega, Nat.mod_eq_of_lt hj]
theorem idxM_ok (N n : Nat) (h : n < N) : IdxOk (idxM N n) N := by
  refine ⟨fun j hj => ?_, fun j hj => List.mem_append.2 (.inl (List.mem_range.2 hj))⟩
  rcases List.mem_append.1 hj with hj | hj
  · exact List.mem_range.1 hj
  · rw [List.mem_singleton.1 hj]; exact h
theorem idxT_at (N n k : Nat) (h : k < N) : (idxT N n).getD k 0 = (k + n) % N := by
  unfold idxT
  rw [map_getD _ 0 0 _ _ (by simpa using h)]
  simp [List.getD_eq_getElem?_getD, h]
theorem idxM_at (N n k : Nat) (h : k < N) : (idxM N n).getD k 0 = k := by
  unfold idxM
  simp [List.getD_eq_getElem?_getD, List.getElem?_append_left, h]
theorem turn_re {α : Type} (d : α) (l : List α) (n : Nat) (h : n < l.length) : l.drop n ++ l.take n = reL (idxT l.length n) d l := by
  refine ext_getD d _ _ (by rw [reL_len]; simp [idxT]; omega) fun k hk => ?_
  have hk' : k < l.length := by simp at hk; omega
  rw [reL_at _ _ _ _ (by simpa [idxT] using hk'), idxT_at _ _ _ hk']
  simp only [List.getD_eq_getElem?_getD]
  by_cases hc : k < l.length - n
  · rw [List.getElem?_append_left (by simp; omega), List.getElem?_drop, Nat.mod_eq_of_lt (by omega), Nat.add_comm]
  · rw [List.getElem?_append_right (by simp; omega), List.length_drop, List.getElem?_take_of_lt (by omega), show k + n = (k - (l.length - n)) + l.length by omega, Nat.add_mod_right, Nat.mod_eq_of_lt (by omega)]
theorem more_re {α : Type} (d : α) (l : List α) (n : Nat) (h : n < l.length) : l ++ [l.getD n d] = reL (idxM l.length n) d l := by
  unfold reL idxM
  rw [List.map_append]
  congr 1
  refine ext_getD d _ _ (by simp) fun k hk => ?_
  rw [map_getD _ 0 d _ _ (by simpa using hk)]
  simp [List.getD_eq_getElem?_getD, hk]
theorem tmod_turn (k n N : Nat) (h1 : k ≤ 1000) (h2 : n ≤ 1000) : Int.tmod (wrap64 ((k : Int) + (n : Int))) (N : Int) = (((k + n) % N : Nat) : Int) := by
  rw [show wrap64 ((k : Int) + (n : Int)) = ((k + n : Nat) : Int) from wsm (by omega) (by omega), Int.tmod_eq_emod_of_nonneg (by omega)]
  rfl
theorem tu_l1 (sides : List (List Int)) (n : Nat) (hn : n < sides.length) (h7 : sides.length ≤ 7) (l : List S39) (i : Nat) (hi : i < l.length) (hi2 : i ≤ 1000) (hc : (l.getD i z39).f2.length = sides.length) (B : Nat)
    (H : ∀ K, B ≤ K → sennitlaw05_AlignTurns.l0 K sides true (n : Int) l (l.map (reC (idxT sides.length n))) (l.map (reC (idxM sides.length n))) ((i + 1 : Nat) : Int) = some true) : ∀ d k K, k + d = sides.length → B + d + 1 ≤ K →
    sennitlaw05_AlignTurns.l1 K sides true (n : Int) l (l.map (reC (idxT sides.length n))) (l.map (reC (idxM sides.length n))) (i : Int) (k : Int) = some true := by
  have ht : rd_T39 (l.map (reC (idxT sides.length n))) (i : Int) = reC (idxT sides.length n) (l.getD i z39) := by rw [rd39, map_getD _ z39 z39 l i hi]
  have hm : rd_T39 (l.map (reC (idxM sides.length n))) (i : Int) = reC (idxM sides.length n) (l.getD i z39) := by rw [rd39, map_getD _ z39 z39 l i hi]
  have lt : (reC (idxT sides.length n) (l.getD i z39)).f2.length = sides.length := by show (reL _ _ _).length = _; rw [reL_len]; simp [idxT]
  have lm : (reC (idxM sides.length n) (l.getD i z39)).f2.length = sides.length + 1 := by show (reL _ _ _).length = _; rw [reL_len]; simp [idxM]
  intro d
  induction d with
  | zero =>
    intro k K hk hK
    obtain ⟨K, rfl⟩ : ∃ q, K = q + 1 := ⟨K - 1, by omega⟩
    rw [sennitlaw05_AlignTurns.l1, if_neg (by omega), w1 (by omega)]
    exact H K (by omega)
  | succ d ih =>
    intro k K hk hK
    obtain ⟨K, rfl⟩ : ∃ q, K = q + 1 := ⟨K - 1, by omega⟩
    have hkN : k < sides.length := by omega
    have hmod : (k + n) % sides.length < sides.length := Nat.mod_lt _ (by omega)
    have c1 : (i : Int) < ((l.map (reC (idxT sides.length n))).length : Int) := by rw [List.length_map]; omega
    have c2 : (i : Int) < ((l.map (reC (idxM sides.length n))).length : Int) := by rw [List.length_map]; omega
    have c3 : (i : Int) < (l.length : Int) := by omega
    have c4 : (0 : Int) ≤ (i : Int) := by omega
    have c5 : (0 : Int) ≤ (k : Int) := by omega
    have c6 : ¬ ((sides.length : Int) = 0) := by omega
    have k6 : k ≤ 1000 := by omega
    have n6 : n ≤ 1000 := by omega
    have k7 : k ≤ 1000000 := by omega
    have c7 : (k : Int) < (sides.length : Int) := by omega
    have c8 : (0 : Int) ≤ (((k + n) % sides.length : Nat) : Int) := by omega
    have c9 : (((k + n) % sides.length : Nat) : Int) < ((l.getD i z39).f2.length : Int) := by omega
    have c10 : (k : Int) < ((sides.length + 1 : Nat) : Int) := by omega
    have c11 : (k : Int) < ((l.getD i z39).f2.length : Int) := by omega
    have hih := ih (k + 1) K (by omega) (by omega)
    have g1 : (reC (idxT sides.length n) (l.getD i z39)).f2.getD k z36 = (l.getD i z39).f2.getD ((k + n) % sides.length) z36 := by
      show (reL _ _ _).getD k z36 = _
      rw [reL_at _ _ _ _ (by simpa [idxT] using hkN), idxT_at _ _ _ hkN]
    have g2 : (reC (idxM sides.length n) (l.getD i z39)).f2.getD k z36 = (l.getD i z39).f2.getD k z36 := by
      show (reL _ _ _).getD k z36 = _
      rw [reL_at _ _ _ _ (by simp [idxM]; omega), idxM_at _ _ _ hkN]
    clear H ih hK hk hc hmod
    rw [sennitlaw05_AlignTurns.l1, if_pos c7, if_pos c4, if_pos c1, if_pos c5, ht, hm, rd39, lt, lm, if_pos c7, if_pos c3, if_neg c6, tmod_turn k n sides.length k6 n6, if_pos c8, if_pos c9, rd36, rd36, rd36, rd36, g1, g2]
    generalize (l.getD i z39).f2.getD ((k + n) % sides.length) z36 = u
    generalize hv : (l.getD i z39).f2.getD k z36 = v
    rw [if_neg (by simp), if_pos c2, if_pos c10, if_pos c11, if_neg (by simp), w1 k7]
    exact hih
theorem tu_l0 (sides : List (List Int)) (n : Nat) (hn : n < sides.length) (h7 : sides.length ≤ 7) (l : List S39) (hl : l.length ≤ 1000) (hc : ∀ c ∈ l, c.f2.length = sides.length) : ∀ d i K, i + d = l.length → 100 * (d + 1) ≤ K →
    sennitlaw05_AlignTurns.l0 K sides true (n : Int) l (l.map (reC (idxT sides.length n))) (l.map (reC (idxM sides.length n))) (i : Int) = some true := by
  intro d
  induction d with
  | zero =>
    intro i K hi hK
    obtain ⟨K, rfl⟩ : ∃ q, K = q + 1 := ⟨K - 1, by omega⟩
    rw [sennitlaw05_AlignTurns.l0, if_neg (by omega)]
  | succ d ih =>
    intro i K hi hK
    obtain ⟨K, rfl⟩ : ∃ q, K = q + 2 := ⟨K - 2, by omega⟩
    have hlt : i < l.length := by omega
    have hci := hc _ (getD_mem l z39 i hlt)
    have ht : rd_T39 (l.map (reC (idxT sides.length n))) (i : Int) = reC (idxT sides.length n) (l.getD i z39) := by rw [rd39, map_getD _ z39 z39 l i hlt]
    have hm : rd_T39 (l.map (reC (idxM sides.length n))) (i : Int) = reC (idxM sides.length n) (l.getD i z39) := by rw [rd39, map_getD _ z39 z39 l i hlt]
    have lt : (reC (idxT sides.length n) (l.getD i z39)).f2.length = sides.length := by show (reL _ _ _).length = _; rw [reL_len]; simp [idxT]
    have lm : (reC (idxM sides.length n) (l.getD i z39)).f2.length = sides.length + 1 := by show (reL _ _ _).length = _; rw [reL_len]; simp [idxM]
    have c1 : (i : Int) < ((l.map (reC (idxT sides.length n))).length : Int) := by rw [List.length_map]; omega
    have c2 : (i : Int) < ((l.map (reC (idxM sides.length n))).length : Int) := by rw [List.length_map]; omega
    have f1 : ∀ idx, (reC idx (l.getD i z39)).f1 = (l.getD i z39).f1 := fun _ => rfl
    have f0 : ∀ idx, (reC idx (l.getD i z39)).f0 = (l.getD i z39).f0 := fun _ => rfl
    rw [sennitlaw05_AlignTurns.l0, if_pos (by omega), if_pos (by omega), ht, hm, rd39, hci, lt, lm, if_pos rfl, if_pos c1, if_pos rfl, if_pos c2, w1 (by omega), if_pos rfl, f1, f1, f0, f0, if_neg (by simp), if_neg (by simp), if_neg (by simp), sennitlaw05_AlignTurns.j2, if_neg (by simp)]
    exact tu_l1 sides n hn h7 l i hlt (by omega) hci (100 * (d + 1)) (fun K' hK' => ih (i + 1) K' (by omega) hK') sides.length 0 K (by omega) (by omega)
theorem AlignTurns (l0 : List Int) (n0 : l0.length ≤ 9223372036854775807) (o0 : ∀ x ∈ l0, (Lit.int .u8 x).wf = true) (l1 : List (List Int)) (n1 : l1.length ≤ 9223372036854775807) (o1 : ∀ y ∈ l1, y.length ≤ 9223372036854775807 ∧ ∀ x ∈ y, (Lit.int .u8 x).wf = true) (a2 : Int) (o2 : (Lit.int .u8 a2).wf = true) : ∃ k, sennitlaw05_AlignTurns.f k l0 l1 a2 = some true := by
  obtain ⟨b, hb, hB⟩ := few_f l0 l1 n0 n1 (fun y hy => (o1 y hy).1) 400000 (by omega)
  refine ⟨400000, ?_⟩
  unfold sennitlaw05_AlignTurns.f
  rw [awake05 _ (by omega), Option.bind_some, hb, Option.bind_some]
  cases b with
  | false => rfl
  | true =>
    have h6 := hB rfl
    have hs := few_of h6
    have hby := bytes_of o0 o1
    have hlen := hs.len
    have hw : 0 ≤ a2 ∧ a2 ≤ 255 := by
      simp [Lit.wf, IntKind.min, IntKind.max, IntKind.signed, IntKind.bits] at o2
      omega
    obtain ⟨n, hn, hlt⟩ : ∃ n : Nat, Int.tmod (wrap64 a2) (l1.length : Int) = (n : Int) ∧ n < l1.length := by
      rw [show wrap64 a2 = a2 from wsm (by omega) (by omega), Int.tmod_eq_emod_of_nonneg hw.1]
      refine ⟨(a2 % (l1.length : Int)).toNat, ?_, ?_⟩
      · have := Int.emod_nonneg a2 (show (l1.length : Int) ≠ 0 by omega)
        omega
      · have := Int.emod_lt_of_pos a2 (show (0 : Int) < (l1.length : Int) by omega)
        omega
    have okT := idxT_ok l1.length n hlt
    have okM := idxM_ok l1.length n hlt
    have lT : (idxT l1.length n).length = l1.length := by simp [idxT]
    have lM : (idxM l1.length n).length = l1.length + 1 := by simp [idxM]
    have sT := re_small hs okT (by omega) (by omega)
    have sM := re_small hs okM (by omega) (by omega)
    have byR : ∀ idx, IdxOk idx l1.length → Bytes5 l0 (reL idx [] l1) := fun idx ok => ⟨hby.a, fun y hy => by
      obtain ⟨q, hq, rfl⟩ := mem_getD _ [] y hy
      rw [reL_len] at hq
      rw [reL_at _ _ _ _ hq]
      exact hby.l _ (getD_mem l1 [] _ (ok.at q hq))⟩
    have eT := re_cut hs okT sT
    have eM := re_cut hs okM sM
    have tT := turn_re [] l1 n hlt
    have tM := more_re [] l1 n hlt
    have hrd : rd_L9 l1 (n : Int) = l1.getD n [] := by simp [rd_L9]
    have hcT := cut_f sT (byR _ okT) 400000 (by omega)
    have hcM := cut_f sM (byR _ okM) 400000 (by omega)
    have hc0 := cut_f hs hby 400000 (by omega)
    rw [eT] at hcT
    rw [eM] at hcM
    have hch : ∀ c ∈ cutF l0 l1, c.f2.length = l1.length := fun c hc => (hs.ch c hc).len
    rw [if_pos rfl, if_neg (by omega), Option.bind_some, hn, if_pos (by omega), if_pos (by omega), Option.bind_some, Int.toNat_natCast, if_pos (by simp; omega), Option.bind_some, Option.bind_some, List.nil_append, tT, if_pos (by simp; omega), hc0, Option.bind_some, hcT, Option.bind_some, Option.bind_some, if_pos (by simp; omega), Option.bind_some, if_pos (by omega), Option.bind_some, List.nil_append, hrd, tM, if_pos (by simp; omega), hcM, Option.bind_some]
    generalize cutF l0 l1 = ct at hch hlen
    rw [List.length_map, if_pos rfl, List.length_map]
    obtain ⟨K, hK, hK2⟩ : ∃ K, (400000 : Nat) = K + 1 ∧ 390000 ≤ K := ⟨399999, rfl, by decide⟩
    rw [hK, sennitlaw05_AlignTurns.j0, if_neg (by simp)]
    exact tu_l0 l1 n hlt (by omega) ct (by omega) hch ct.length 0 K (by omega) (by omega)
end Go.Proofs.Ytnebadlakmlkkaa.Pure
