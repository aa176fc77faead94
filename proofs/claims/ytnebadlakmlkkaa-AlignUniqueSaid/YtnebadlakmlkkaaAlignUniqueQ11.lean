/- Texts of the claim AlignUnique, put together (part 11): The plain law of AlignUnique: what the printed functions answer is true. -/
import Derived.ArgAppend
import Derived.Below
import Derived.BigQuiet
import Derived.ChangeArms
import Derived.Deep.AppendLies
import Derived.Deep.CutBlock
import Derived.Deep.DeepCutAuto
import Derived.Deep.DrawnRows
import Derived.Deep.Draws
import Derived.Deep.LoopGhost
import Derived.Deep.OwnRows
import Derived.Deep.QuietTactic
import Derived.Deep.RegionHeld3
import Derived.Deep.Slices
import Derived.KernelRfl
import Derived.Laws.BitsLemmas
import Derived.Laws.BytesArg
import Derived.Laws.IdiomCopy
import Derived.Laws.MakeOwn
import Derived.Laws.OwnMore
import Derived.Laws.Rows
import Derived.Laws.Slices
import Derived.Laws.StructEq
import Derived.Lib.AppendStr
import Derived.Lib.ConvBytes
import Derived.Maps.AppendAt
import Derived.OpenShut
import Derived.OrdersHeld
import Derived.OwnWalk
import Derived.RowKit
import Derived.RowKit3
import Derived.Tactics
import Derived.Test.YtnebadlakmlkkaaProg
import Derived.WalkKit
import Derived.WalkMore
import Derived.WideLaws
import Derived.Test.YtnebadlakmlkkaaAlignUniqueQ10
namespace Go.Proofs.Ytnebadlakmlkkaa.Pure
open Go.RowKit Go.Proofs.Ytnebadlakmlkkaa.M Go.Proofs.Ytnebadlakmlkkaa.Hand Go.Proofs.YtnebadlakmlkkaaW.PrintWords Go.Proofs.YtnebadlakmlkkaaW.PrintLast Go.Proofs.YtnebadlakmlkkaaW.PrintMore
set_option linter.unusedVariables false
/-! Same, of chunks. -/
theorem same_l1 (a b : List S39) (i : Nat) (hia : i < a.length) (hib : i < b.length) (hi : i ≤ 1000000) (hl : (a.getD i z39).f2.length = (b.getD i z39).f2.length) (hb : (b.getD i z39).f2.length ≤ 1000) (P0 : Prop) (B : Nat) (H : ∀ K, B ≤ K → ∃ r, sennitref05_Same.l0 K a b ((i + 1 : Nat) : Int) = some r ∧ (r = true ↔ P0)) : ∀ d q K, q + d = (a.getD i z39).f2.length → B + d + 1 ≤ K →
    ∃ r, sennitref05_Same.l1 K a b (i : Int) (q : Int) = some r ∧ (r = true ↔ ((∀ j, q ≤ j → j < (a.getD i z39).f2.length → (a.getD i z39).f2.getD j z36 = (b.getD i z39).f2.getD j z36) ∧ P0)) := by
  intro d
  induction d with
  | zero =>
    intro q K hq hK
    obtain ⟨K, rfl⟩ : ∃ q, K = q + 1 := ⟨K - 1, by omega⟩
    obtain ⟨r, h1, h2⟩ := H K (by omega)
    rw [sennitref05_Same.l1, if_pos (by omega), if_pos (by omega), rd39, rd39, if_neg (by omega), w1 hi]
    exact ⟨r, h1, h2.trans ⟨fun h => ⟨fun j h1 h2 => by omega, h⟩, fun h => h.2⟩⟩
  | succ d ih =>
    intro q K hq hK
    obtain ⟨K, rfl⟩ : ∃ q, K = q + 1 := ⟨K - 1, by omega⟩
    obtain ⟨r, h1, h2⟩ := ih (q + 1) K (by omega) (by omega)
    rw [sennitref05_Same.l1, if_pos (by omega), if_pos (by omega), rd39, rd39, if_pos (by omega), if_pos (by omega), if_pos (by omega), if_pos (by omega), rd36, rd36, w1 (by omega)]
    have hsplit : ∀ (x y : S36), (a.getD i z39).f2.getD q z36 = x → (b.getD i z39).f2.getD q z36 = y → (((∀ j, q ≤ j → j < (a.getD i z39).f2.length → (a.getD i z39).f2.getD j z36 = (b.getD i z39).f2.getD j z36) ∧ P0) ↔ (x = y ∧ ((∀ j, q + 1 ≤ j → j < (a.getD i z39).f2.length → (a.getD i z39).f2.getD j z36 = (b.getD i z39).f2.getD j z36) ∧ P0))) := by
      intro x y hx hy
      constructor
      · intro h
        exact ⟨by rw [← hx, ← hy]; exact h.1 q (Nat.le_refl _) (by omega), fun j h1 h2 => h.1 j (by omega) h2, h.2⟩
      · intro h
        refine ⟨fun j h1 h2 => ?_, h.2.2⟩
        rcases Nat.lt_or_ge q j with h3 | h3
        · exact h.2.1 j h3 h2
        · obtain rfl : j = q := by omega
          rw [hx, hy]; exact h.1
    have hsp := hsplit _ _ rfl rfl
    clear hsplit
    rw [hsp]
    clear hsp
    generalize (a.getD i z39).f2.getD q z36 = x
    generalize (b.getD i z39).f2.getD q z36 = y
    by_cases he : x = y
    · subst he
      rw [if_neg (by simp)]
      exact ⟨r, h1, h2.trans ⟨fun h => ⟨rfl, h⟩, fun h => h.2⟩⟩
    · obtain ⟨x0, x1⟩ := x
      obtain ⟨y0, y1⟩ := y
      rw [if_pos (by
        simp only [S36.mk.injEq] at he
        rw [Bool.or_eq_true, Bool.not_eq_true', Bool.not_eq_true', beq_eq_false_iff_ne, beq_eq_false_iff_ne]
        by_cases h : x0 = y0
        · exact .inr fun h2 => he ⟨h, h2⟩
        · exact .inl h)]
      exact ⟨false, rfl, by simp [he]⟩
theorem same_l0 (a b : List S39) (hl : a.length = b.length) (hb : b.length ≤ 1000) (hb2 : ∀ c ∈ b, c.f2.length ≤ 1000) : ∀ d i K, i + d = a.length → 2000 * (d + 1) ≤ K → ∃ r, sennitref05_Same.l0 K a b (i : Int) = some r ∧ (r = true ↔ a.drop i = b.drop i) := by
  intro d
  induction d with
  | zero =>
    intro i K hi hK
    obtain ⟨K, rfl⟩ : ∃ q, K = q + 1 := ⟨K - 1, by omega⟩
    rw [sennitref05_Same.l0, if_neg (by omega), List.drop_of_length_le (by omega), List.drop_of_length_le (by omega)]
    exact ⟨true, rfl, by simp⟩
  | succ d ih =>
    intro i K hi hK
    obtain ⟨K, rfl⟩ : ∃ q, K = q + 2 := ⟨K - 2, by omega⟩
    have hia : i < a.length := by omega
    have hib : i < b.length := by omega
    have da : a.drop i = a.getD i z39 :: a.drop (i + 1) := by rw [List.drop_eq_getElem_cons hia, List.getD_eq_getElem?_getD, List.getElem?_eq_getElem hia]; rfl
    have db : b.drop i = b.getD i z39 :: b.drop (i + 1) := by rw [List.drop_eq_getElem_cons hib, List.getD_eq_getElem?_getD, List.getElem?_eq_getElem hib]; rfl
    have hc2 := hb2 _ (getD_mem b z39 i hib)
    have hL1 := same_l1 a b i hia hib (by omega) 
    rw [da, db, sennitref05_Same.l0, if_pos (by omega), if_pos (by omega), if_pos (by omega), rd39, rd39]
    generalize hx : a.getD i z39 = x at hL1
    generalize hy : b.getD i z39 = y at hL1 hc2
    have stop : ∀ (h : x ≠ y), ∃ r, sennitref05_Same.j1 (K + 1) a b (i : Int) true = some r ∧ (r = true ↔ x :: a.drop (i + 1) = y :: b.drop (i + 1)) := fun h => ⟨false, by rw [sennitref05_Same.j1, if_pos rfl], by simp [h]⟩
    by_cases e1 : (x.f0 != y.f0) = true
    · rw [if_pos e1]
      exact stop fun h => by rw [h] at e1; simp at e1
    · rw [if_neg e1]
      by_cases e2 : (!(x.f1.f0 == y.f1.f0) || (!(x.f1.f1 == y.f1.f1))) = true
      · rw [if_pos e2]
        exact stop fun h => by rw [h] at e2; simp at e2
      · rw [if_neg e2]
        by_cases e3 : ((x.f2.length : Int) != (y.f2.length : Int)) = true
        · rw [e3]
          exact stop fun h => by rw [h] at e3; simp at e3
        · rw [Bool.eq_false_iff.2 e3, sennitref05_Same.j1, if_neg (by decide)]
          have e3' : x.f2.length = y.f2.length := by
            have : (x.f2.length : Int) = (y.f2.length : Int) := by simpa using e3
            omega
          obtain ⟨r, h1, h2⟩ := hL1 e3' hc2 _ _ (fun K' hK' => ih (i + 1) K' (by omega) hK') x.f2.length 0 K (by omega) (by omega)
          refine ⟨r, h1, h2.trans ?_⟩
          rw [List.cons.injEq]
          refine and_congr_left fun _ => ⟨fun h => ?_, fun h j _ _ => by rw [h]⟩
          obtain ⟨x0, ⟨x1, x2⟩, x3⟩ := x
          obtain ⟨y0, ⟨y1, y2⟩, y3⟩ := y
          simp only [Bool.or_eq_true, Bool.not_eq_true', beq_eq_false_iff_ne, bne_iff_ne, ne_eq, Decidable.not_not, not_or] at e1 e2
          simp only [S39.mk.injEq, S36.mk.injEq]
          exact ⟨e1, e2, ext_getD z36 _ _ e3' fun j hj => h j (Nat.zero_le _) hj⟩
theorem same5_f (a b : List S39) (hb : b.length ≤ 100) (hb2 : ∀ c ∈ b, c.f2.length ≤ 1000) (k : Nat) (hk : 300000 ≤ k) : ∃ r, sennitref05_Same.f k a b = some r ∧ (r = true ↔ a = b) := by
  unfold sennitref05_Same.f
  by_cases h : (a.length : Int) = (b.length : Int)
  · rw [if_pos h]
    exact same_l0 a b (by omega) (by omega) hb2 a.length 0 k (by omega) (by omega)
  · rw [if_neg h]
    exact ⟨false, rfl, by simp; intro e; exact h (by rw [e])⟩

/-- What a place of a chunk must be, for a list to fit. -/
def PlaceOk (M : List (List Int)) (n : Nat) (c : S39) (k : Nat) : Prop := (c.f0 = true → ∀ s < n, mm M s k = (c.f2.getD s z36).f0 + k - c.f1.f0) ∧ stabB M k = c.f0
/-- What is known of a chunk of a list that covers all. -/
structure ChC (m n : Nat) (c : S39) : Prop where
  b0 : 0 ≤ c.f1.f0
  bm : c.f1.f1 ≤ m
  ble : c.f1.f0 ≤ c.f1.f1
  len : c.f2.length = n
  s0 : ∀ i < n, 0 ≤ (c.f2.getD i z36).f0 ∧ (c.f2.getD i z36).f0 ≤ 1000
theorem cov_end {m : Nat} {sizes : List Int} : ∀ (l : List S39) (b : Int) (a : List Int) (p : Option Bool), Cov m sizes b a p l → b ≤ m ∧ a.length = sizes.length ∧ ∀ i < a.length, a.getD i 0 ≤ sizes.getD i 0
  | [], b, a, p, h => by
    obtain ⟨rfl, rfl⟩ := h
    exact ⟨Int.le_refl _, rfl, fun _ _ => Int.le_refl _⟩
  | c :: t, b, a, p, h => by
    obtain ⟨h1, _, h2⟩ := h
    obtain ⟨q1, q2, q3⟩ := cov_end t _ _ _ h2
    rw [tos_len, h1.hlen] at q2
    refine ⟨Int.le_trans h1.hle q1, q2, fun i hi => ?_⟩
    have := q3 i (by rw [tos_len, h1.hlen]; exact hi)
    rw [tos_get _ _ (by rw [h1.hlen]; exact hi)] at this
    exact Int.le_trans (h1.hsl i hi) this
theorem cov_ch {m : Nat} {sizes : List Int} (hs : ∀ x ∈ sizes, x ≤ 1000) : ∀ (l : List S39) (b : Int) (a : List Int) (p : Option Bool), Cov m sizes b a p l → 0 ≤ b → (∀ i < a.length, 0 ≤ a.getD i 0) → ∀ c ∈ l, ChC m a.length c
  | [], b, a, p, h, _, _, c, hc => by cases hc
  | d :: t, b, a, p, ⟨h1, h2, h3⟩, hb, ha, c, hc => by
    obtain ⟨q1, q2, q3⟩ := cov_end t _ _ _ h3
    rcases List.mem_cons.1 hc with rfl | hc
    · refine ⟨by rw [h1.hb]; exact hb, q1, by rw [h1.hb]; exact h1.hle, h1.hlen, fun i hi => ?_⟩
      rw [h1.hf i hi]
      refine ⟨ha i hi, ?_⟩
      have e1 := h1.hsl i hi
      have e2 := q3 i (by rw [tos_len, h1.hlen]; exact hi)
      rw [tos_get _ _ (by rw [h1.hlen]; exact hi)] at e2
      rw [tos_len, h1.hlen] at q2
      have e3 := hs _ (getD_mem sizes 0 i (by omega))
      omega
    · have := cov_ch hs t _ _ _ h3 (Int.le_trans hb h1.hle) (fun i hi => by
        rw [tos_len] at hi
        rw [tos_get _ _ hi]
        rw [h1.hlen] at hi
        have e1 := h1.hsl i hi
        have e2 := ha i hi
        omega) c hc
      rwa [tos_len, h1.hlen] at this
/-- A list that covers all, and whose places are as they must be, fits. -/
theorem cov_fits {M : List (List Int)} {m : Nat} {sizes : List Int} (hM : M.length = sizes.length) : ∀ (l : List S39) (b : Int) (a : List Int) (p : Option Bool), Cov m sizes b a p l → (∀ c ∈ l, ∀ k : Nat, c.f1.f0 ≤ k → (k : Int) < c.f1.f1 → PlaceOk M sizes.length c k) → Fits M m sizes b a p l
  | [], _, _, _, h, _ => h
  | c :: t, b, a, p, ⟨h1, h2, h3⟩, hp => by
    have ha : a.length = sizes.length := by
      have := (cov_end t _ _ _ h3).2.1
      rw [tos_len, h1.hlen] at this
      exact this
    refine ⟨⟨h1.hb, h1.hlen, h1.hf, h1.hle, h1.hsl, h1.hne, h1.hst, fun k k1 k2 => ?_⟩, h2, cov_fits hM t _ _ _ h3 fun c hc => hp c (List.mem_cons_of_mem _ hc)⟩
    have := hp c (List.mem_cons_self ..) k (by rw [h1.hb]; exact k1) k2
    refine ⟨this.2, fun hc i hi => ?_⟩
    have e := this.1 hc i (by omega)
    rw [h1.hf i hi, h1.hb] at e
    exact e
theorem fits_place {M : List (List Int)} {m : Nat} {sizes : List Int} : ∀ (l : List S39) (b : Int) (a : List Int) (p : Option Bool), Fits M m sizes b a p l → ∀ c ∈ l, ∀ k : Nat, c.f1.f0 ≤ k → (k : Int) < c.f1.f1 → PlaceOk M sizes.length c k
  | [], _, _, _, _, c, hc => by cases hc
  | d :: t, b, a, p, ⟨h1, h2, h3⟩, c, hc => by
    rcases List.mem_cons.1 hc with rfl | hc
    · intro k k1 k2
      have ha : a.length = sizes.length := by
        have := (fits_end t _ _ _ h3).2.1
        rw [tos_len, h1.hlen] at this
        exact this
      obtain ⟨e1, e2⟩ := h1.hk k (by rw [← h1.hb]; exact k1) k2
      refine ⟨fun hc s hs => ?_, e1⟩
      rw [h1.hf s (by omega), h1.hb]
      exact e2 hc s (by omega)
    · exact fits_place t _ _ _ h3 c hc
section
variable {a : List Int} {sides : List (List Int)} (hs : Small5 a sides)
include hs
theorem un_l2 (l : List S39) (i : Nat) (hi : i < l.length) (hc : ChC a.length sides.length (l.getD i z39)) (k : Nat) (hk1 : (l.getD i z39).f1.f0 ≤ k) (hk2 : (k : Int) < (l.getD i z39).f1.f1) (B : Nat) (G Bad : Prop) (hbad : ¬ PlaceOk (matchesF a sides) sides.length (l.getD i z39) k → Bad)
    (H : ∀ K x, B ≤ K → (x = true → G ∧ PlaceOk (matchesF a sides) sides.length (l.getD i z39) k) → (x = false → Bad) → sennitlaw05_AlignUnique.l1 K a sides l true (matchesF a sides) x (i : Int) ((k + 1 : Nat) : Int) = some true) : ∀ (d s K : Nat) (x : Bool), s + d = sides.length → B + d + 1 ≤ K →
    (x = true → G ∧ ∀ q < s, (l.getD i z39).f0 = true → mm (matchesF a sides) q k = ((l.getD i z39).f2.getD q z36).f0 + k - (l.getD i z39).f1.f0) → (x = false → Bad) →
    sennitlaw05_AlignUnique.l2 K a sides l true (matchesF a sides) x (i : Int) (k : Int) (allP (matchesF a sides) k s) (s : Int) = some true := by
  have hbm := hc.bm
  have ha30 := hs.a30
  have hl7 := hs.l7
  have hil : (i : Int) < (l.length : Int) := by omega
  have hi0 : (0 : Int) ≤ (i : Int) := by omega
  have hml : (matchesF a sides).length = sides.length := matchesF_len a sides
  intro d
  induction d with
  | zero =>
    intro s K x hsd hK hx hxf
    obtain ⟨K, rfl⟩ : ∃ q, K = q + 1 := ⟨K - 1, by omega⟩
    have e : s = (matchesF a sides).length := by omega
    rw [sennitlaw05_AlignUnique.l2, if_neg (by omega), e, allP_end, rd39, w1 (by omega)]
    cases x with
    | false =>
      rw [if_neg (by decide)]
      exact H K false (by omega) (by simp) hxf
    | true =>
      rw [if_pos rfl, if_pos hi0, if_pos hil]
      obtain ⟨g, hq⟩ := hx rfl
      refine H K _ (by omega) (fun h => ⟨g, fun hc s hs => hq s (by omega) hc, by simpa using h⟩) (fun h => hbad fun hp => ?_)
      rw [hp.2] at h
      simp at h
  | succ d ih =>
    intro s K x hsd hK hx hxf
    obtain ⟨K, rfl⟩ : ∃ q, K = q + 1 := ⟨K - 1, by omega⟩
    have hsl : s < sides.length := by omega
    have hsm : s < (matchesF a sides).length := by omega
    have hinv := hs.inv s hsl
    have hrow : rd_L1 (matchesF a sides) (s : Int) = matchF a (sides.getD s []) := by
      unfold rd_L1; rw [Int.toNat_natCast]; exact matchesF_at a sides s hsl
    have hmm : (matchF a (sides.getD s [])).getD k 0 = mm (matchesF a sides) s k := by unfold mm; rw [matchesF_at a sides s hsl]
    have c1 : (s : Int) < ((matchesF a sides).length : Int) := by omega
    have c2 : (0 : Int) ≤ (s : Int) := by omega
    have c3 : (s : Int) < ((l.getD i z39).f2.length : Int) := by have := hc.len; omega
    have c5 : (0 : Int) ≤ (k : Int) := by omega
    have c6 : (k : Int) < ((matchF a (sides.getD s [])).length : Int) := by rw [hinv.len]; omega
    obtain ⟨b1, b2⟩ := hc.s0 s hsl
    have hih := fun x => ih (s + 1) K x (by omega) (by omega)
    have step : ∀ x13 : Bool, allP (matchesF a sides) k (s + 1) = x13 → ∀ x' : Bool, (x' = true → x = true ∧ ((l.getD i z39).f0 = true → mm (matchesF a sides) s k = ((l.getD i z39).f2.getD s z36).f0 + k - (l.getD i z39).f1.f0)) → (x' = false → x = false ∨ ¬ PlaceOk (matchesF a sides) sides.length (l.getD i z39) k) →
        sennitlaw05_AlignUnique.l2 K a sides l true (matchesF a sides) x' (i : Int) (k : Int) x13 ((s + 1 : Nat) : Int) = some true := by
      intro x13 h13 x' h1 h2
      subst h13
      refine hih x' (fun h => ?_) (fun h => ?_)
      · obtain ⟨h3, h4⟩ := h1 h
        obtain ⟨g, h5⟩ := hx h3
        refine ⟨g, fun q hq hc => ?_⟩
        rcases Nat.lt_or_ge q s with h6 | h6
        · exact h5 q h6 hc
        · obtain rfl : q = s := by omega
          exact h4 hc
      · rcases h2 h with h3 | h3
        · exact hxf h3
        · exact hbad h3
    rw [allP_succ _ _ _ hsm] at step
    rw [sennitlaw05_AlignUnique.l2, if_pos c1, hrow, rd39, rd36, rd_at, hmm, wplace b1 b2 (by omega) hc.b0 hk1, w1 (by omega)]
    have eqs : (l.getD i z39).f0 = true → ∀ y : Bool, ((mm (matchesF a sides) s k == ((l.getD i z39).f2.getD s z36).f0 + k - (l.getD i z39).f1.f0) = y) → x = true → (y = true → x = true ∧ ((l.getD i z39).f0 = true → mm (matchesF a sides) s k = ((l.getD i z39).f2.getD s z36).f0 + k - (l.getD i z39).f1.f0)) ∧ (y = false → x = false ∨ ¬ PlaceOk (matchesF a sides) sides.length (l.getD i z39) k) := by
      intro hst y hy hx1
      subst hy
      exact ⟨fun h => ⟨hx1, fun _ => beq_iff_eq.1 h⟩, fun h => .inr fun hp => (beq_eq_false_iff_ne.1 h) (hp.1 hst s hsl)⟩
    cases hal : allP (matchesF a sides) k s with
    | true =>
      rw [hal, Bool.true_and] at step
      rw [if_pos rfl, if_pos c2, if_pos c5, if_pos c6]
      cases x with
      | false =>
        rw [if_neg (by decide)]
        exact step _ rfl false (by simp) (fun _ => .inl rfl)
      | true =>
        rw [if_pos rfl, if_pos hi0, if_pos hil]
        cases hst : (l.getD i z39).f0 with
        | true =>
          rw [if_pos rfl, if_pos c3]
          obtain ⟨e1, e2⟩ := eqs hst _ rfl rfl
          exact step _ rfl _ e1 e2
        | false =>
          rw [if_neg (by decide)]
          exact step _ rfl true (fun _ => ⟨rfl, fun h => by rw [hst] at h; cases h⟩) (by simp)
    | false =>
      rw [hal, Bool.false_and] at step
      rw [if_neg (by decide)]
      cases x with
      | false =>
        rw [if_neg (by decide)]
        exact step _ rfl false (by simp) (fun _ => .inl rfl)
      | true =>
        rw [if_pos rfl, if_pos hi0, if_pos hil]
        cases hst : (l.getD i z39).f0 with
        | true =>
          rw [if_pos rfl, if_pos c2, if_pos c5, if_pos c6, if_pos c3]
          obtain ⟨e1, e2⟩ := eqs hst _ rfl rfl
          exact step _ rfl _ e1 e2
        | false =>
          rw [if_neg (by decide)]
          exact step _ rfl true (fun _ => ⟨rfl, fun h => by rw [hst] at h; cases h⟩) (by simp)
theorem un_l1 (l : List S39) (i : Nat) (hi : i < l.length) (hc : ChC a.length sides.length (l.getD i z39)) (B : Nat) (G Bad : Prop) (hbad : ∀ k : Nat, (l.getD i z39).f1.f0 ≤ k → (k : Int) < (l.getD i z39).f1.f1 → ¬ PlaceOk (matchesF a sides) sides.length (l.getD i z39) k → Bad) (hil : i ≤ 1000)
    (H : ∀ K x, B ≤ K → (x = true → G ∧ ∀ k : Nat, (l.getD i z39).f1.f0 ≤ k → (k : Int) < (l.getD i z39).f1.f1 → PlaceOk (matchesF a sides) sides.length (l.getD i z39) k) → (x = false → Bad) → sennitlaw05_AlignUnique.l0 K a sides l true (matchesF a sides) x ((i + 1 : Nat) : Int) = some true) : ∀ (d k K : Nat) (x : Bool), (k : Int) + d = (l.getD i z39).f1.f1 → (l.getD i z39).f1.f0 ≤ k → B + 20 * d + 1 ≤ K →
    (x = true → G ∧ ∀ k' : Nat, (l.getD i z39).f1.f0 ≤ k' → k' < k → PlaceOk (matchesF a sides) sides.length (l.getD i z39) k') → (x = false → Bad) →
    sennitlaw05_AlignUnique.l1 K a sides l true (matchesF a sides) x (i : Int) (k : Int) = some true := by
  have hl7 := hs.l7
  intro d
  induction d with
  | zero =>
    intro k K x hk hk1 hK hx hxf
    obtain ⟨K, rfl⟩ : ∃ q, K = q + 1 := ⟨K - 1, by omega⟩
    rw [sennitlaw05_AlignUnique.l1, if_pos (by omega), if_pos (by omega), rd39, if_neg (by omega), w1 (by omega)]
    exact H K x (by omega) (fun h => ⟨(hx h).1, fun k' h1 h2 => (hx h).2 k' h1 (by omega)⟩) hxf
  | succ d ih =>
    intro k K x hk hk1 hK hx hxf
    obtain ⟨K, rfl⟩ : ∃ q, K = q + 1 := ⟨K - 1, by omega⟩
    rw [sennitlaw05_AlignUnique.l1, if_pos (by omega), if_pos (by omega), rd39, if_pos (by omega)]
    have := un_l2 hs l i hi hc k hk1 (by omega) (B + 20 * d + 1) (G ∧ ∀ k' : Nat, (l.getD i z39).f1.f0 ≤ k' → k' < k → PlaceOk (matchesF a sides) sides.length (l.getD i z39) k') Bad (hbad k hk1 (by omega))
      (fun K' x' hK' h1 h2 => ih (k + 1) K' x' (by omega) (by omega) hK' (fun h => ⟨(h1 h).1.1, fun k' h3 h4 => by
        rcases Nat.lt_or_ge k' k with h5 | h5
        · exact (h1 h).1.2 k' h3 h5
        · obtain rfl : k' = k := by omega
          exact (h1 h).2⟩) h2) sides.length 0 K x (by omega) (by omega) (fun h => ⟨hx h, fun q hq => by omega⟩) hxf
    exact this
theorem un_l0 (hb : Bytes5 a sides) (l : List S39) (hl : l.length ≤ 1000) (hcov : Cov a.length (sizesF sides) 0 (List.replicate (sizesF sides).length 0) none l) : ∀ (B0 : Nat), 400000 ≤ B0 → ∀ (d i K : Nat) (x : Bool), i + d = l.length → B0 + 1000 * d ≤ K →
    (x = true → ∀ c ∈ l.take i, ∀ k : Nat, c.f1.f0 ≤ k → (k : Int) < c.f1.f1 → PlaceOk (matchesF a sides) sides.length c k) → (x = false → l ≠ cutF a sides) →
    sennitlaw05_AlignUnique.l0 K a sides l true (matchesF a sides) x (i : Int) = some true := by
  have ha30 := hs.a30
  have hn : (sizesF sides).length = sides.length := sizesF_len sides
  have hch := cov_ch hs.sizes _ _ _ _ hcov (Int.le_refl _) (fun i hi => by rw [rep_get]; exact Int.le_refl _)
  rw [List.length_replicate, hn] at hch
  have fin : ∀ (i K : Nat) (x : Bool), 390000 ≤ K → ((x = true) ↔ l = cutF a sides) → sennitlaw05_AlignUnique.j2 K a sides l true (matchesF a sides) x (i : Int) false = some true := by
    intro i K x hK hx
    obtain ⟨K, rfl⟩ : ∃ q, K = q + 1 := ⟨K - 1, by omega⟩
    obtain ⟨r, h1, h2⟩ := same5_f l (cutF a sides) (by have := hs.len; omega) (fun c hc => by have := (hs.ch c hc).len; have := hs.l7; omega) K (by omega)
    rw [sennitlaw05_AlignUnique.j2, if_neg (by decide), if_pos rfl, cut_f hs hb K (by omega), Option.bind_some, h1, Option.bind_some]
    have : x = r := by cases x <;> cases r <;> simp_all
    rw [this]; simp
  intro B0 hB0
  intro d
  induction d with
  | zero =>
    intro i K x hi hK hx hxf
    obtain ⟨K, rfl⟩ : ∃ q, K = q + 1 := ⟨K - 1, by omega⟩
    have hK2 : 390000 ≤ K := by omega
    rw [sennitlaw05_AlignUnique.l0]
    cases x with
    | false => rw [if_neg (by decide)]; exact fin i K false hK2 ⟨fun h => absurd h Bool.false_ne_true, fun h => absurd h (hxf rfl)⟩
    | true =>
      rw [if_pos rfl, decide_eq_false (by omega)]
      refine fin i K true (by omega) ⟨fun _ => ?_, fun _ => rfl⟩
      have h1 := hx rfl
      rw [List.take_of_length_le (by omega)] at h1
      exact fits_uniq _ _ 0 _ _ _ (cov_fits (by rw [matchesF_len, hn]) _ _ _ _ hcov (by rw [hn]; exact h1)) hs.fits
  | succ d ih =>
    intro i K x hi hK hx hxf
    obtain ⟨K, rfl⟩ : ∃ q, K = q + 1 := ⟨K - 1, by omega⟩
    have hK1 : B0 ≤ K := by clear hB0; omega
    have hK2 : 390000 ≤ K := Nat.le_trans (by decide) (Nat.le_trans hB0 hK1)
    rw [sennitlaw05_AlignUnique.l0]
    cases x with
    | false => rw [if_neg (by decide)]; exact fin i K false hK2 ⟨fun h => absurd h Bool.false_ne_true, fun h => absurd h (hxf rfl)⟩
    | true =>
      have hlt : i < l.length := by omega
      have hmem := getD_mem l z39 i hlt
      have hci := hch _ hmem
      have hb0 := hci.b0
      have hbm := hci.bm
      have hble := hci.ble
      obtain ⟨K, rfl⟩ : ∃ q, K = q + 1 := ⟨K - 1, by omega⟩
      rw [if_pos rfl, decide_eq_true (by omega), sennitlaw05_AlignUnique.j2, if_pos rfl, if_pos (by omega), if_pos (by omega), rd39]
      obtain ⟨b, hbe⟩ : ∃ b : Nat, (l.getD i z39).f1.f0 = b := ⟨(l.getD i z39).f1.f0.toNat, by omega⟩
      rw [hbe]
      refine un_l1 hs l i hlt hci (B0 + 1000 * d) (∀ c ∈ l.take i, ∀ k : Nat, c.f1.f0 ≤ k → (k : Int) < c.f1.f1 → PlaceOk (matchesF a sides) sides.length c k) (l ≠ cutF a sides) (fun k k1 k2 hno he => hno ?_) (by omega) (fun K' x' hK' h1 h2 => ih (i + 1) K' x' (by omega) hK' (fun h c hc => ?_) h2) ((l.getD i z39).f1.f1 - b).toNat b K true (by omega) (by omega) (by omega) (fun h => ⟨hx h, fun k' h1 h2 => by omega⟩) (by simp)
      · have := fits_place _ _ _ _ hs.fits (l.getD i z39) (by rw [← he]; exact hmem) k k1 k2
        rw [hn] at this
        exact this
      · rw [take_snoc l i _ (getD_at l z39 i hlt)] at hc
        rcases List.mem_append.1 hc with hc | hc
        · exact (h1 h).1 c hc
        · rw [List.mem_singleton.1 hc]; exact (h1 h).2
end
theorem AlignUnique (l0 : List Int) (n0 : l0.length ≤ 9223372036854775807) (o0 : ∀ x ∈ l0, (Lit.int .u8 x).wf = true) (l1 : List (List Int)) (n1 : l1.length ≤ 9223372036854775807) (o1 : ∀ y ∈ l1, y.length ≤ 9223372036854775807 ∧ ∀ x ∈ y, (Lit.int .u8 x).wf = true) (l2 : List S39) (n2 : l2.length ≤ 9223372036854775807) (o2 : ∀ c ∈ l2, ok_39 c) : ∃ k, sennitlaw05_AlignUnique.f k l0 l1 l2 = some true := by
  obtain ⟨b, hb, hB⟩ := few_f l0 l1 n0 n1 (fun y hy => (o1 y hy).1) 700000 (by omega)
  refine ⟨700000, ?_⟩
  unfold sennitlaw05_AlignUnique.f
  rw [awake05 _ (by omega), Option.bind_some, hb, Option.bind_some]
  cases b with
  | false => rfl
  | true =>
    have hs := few_of (hB rfl)
    have hby := bytes_of o0 o1
    have hl7 := hs.l7
    have ha30 := hs.a30
    rw [if_pos rfl, sennitlaw05_AlignUnique.j0]
    by_cases h100 : (l2.length : Int) > 100
    · rw [decide_eq_true h100]; rfl
    · rw [decide_eq_false h100, if_neg (by decide)]
      have h64 : In64 l2 := fun c hc => by
        have := o2 c hc
        simp only [ok_39, ok_36, Lit.wf, IntKind.min, IntKind.max, IntKind.signed, IntKind.bits] at this
        refine ⟨by simp at this; omega, fun s hs => ?_⟩
        have h2 := this.2.2.2 s hs
        simp at h2
        omega
      rw [ints_f l0 (by omega) hby.a _ (by omega), Option.bind_some, lists_f l1 (by omega) (fun y hy => ⟨by have := hs.y30 y hy; omega, hby.l y hy⟩) _ (by omega), Option.bind_some, matches_f l0 l1 (by omega) (by omega) (fun y hy => by have := hs.y30 y hy; omega) _ (by omega), Option.bind_some]
      obtain ⟨r, h1, h2⟩ := covers_f l2 l0.length (sizesF l1) (by rw [sizesF_len]; omega) (by omega) h64 699999 (by omega)
      rw [h1, Option.bind_some]
      cases r with
      | true => exact un_l0 hs hby l2 (by omega) (h2.1 rfl) 400000 (Nat.le_refl _) l2.length 0 699999 true (by omega) (by omega) (fun _ c hc => by simp at hc) (by simp)
      | false =>
        have hne : l2 ≠ cutF l0 l1 := fun h => by
          have := h2.2 (by rw [h]; exact fits_cov _ _ _ _ hs.fits)
          cases this
        have key : ∀ F : Nat, 400000 ≤ F → sennitlaw05_AlignUnique.l0 F l0 l1 l2 true (matchesF l0 l1) false 0 = some true := by
          intro F hF
          obtain ⟨K, rfl⟩ : ∃ K, F = K + 2 := ⟨F - 2, by omega⟩
          rw [sennitlaw05_AlignUnique.l0, if_neg (by decide), sennitlaw05_AlignUnique.j2, if_neg (by decide), if_pos rfl, cut_f hs hby _ (by omega), Option.bind_some]
          obtain ⟨r, h3, h4⟩ := same5_f l2 (cutF l0 l1) (by have := hs.len; omega) (fun c hc => by have := (hs.ch c hc).len; omega) K (by omega)
          rw [h3, Option.bind_some]
          cases r with
          | true => exact absurd (h4.1 rfl) hne
          | false => rfl
        exact key 699999 (by omega)
end Go.Proofs.Ytnebadlakmlkkaa.Pure
