/- What the functions of layer 4 tell, with rounds enough. Plain Lean. -/
import Derived.Test.YtnebadlakmlkkaaPE
import Derived.Test.YtnebadlakmlkkaaF23
import Derived.Test.YtnebadlakmlkkaaF24
import Derived.Test.YtnebadlakmlkkaaF25
import Derived.Test.YtnebadlakmlkkaaF26
import Derived.Test.YtnebadlakmlkkaaF27
import Derived.Test.YtnebadlakmlkkaaF28
import Derived.Test.YtnebadlakmlkkaaF29
import Derived.Test.YtnebadlakmlkkaaF30
import Derived.Test.YtnebadlakmlkkaaF38
import Derived.Test.YtnebadlakmlkkaaF48
namespace Go.Proofs.Ytnebadlakmlkkaa.Pure
open Go.RowKit Go.Proofs.Ytnebadlakmlkkaa.M Go.Proofs.Ytnebadlakmlkkaa.Hand Go.Proofs.YtnebadlakmlkkaaW.PrintWords Go.Proofs.YtnebadlakmlkkaaW.PrintLast Go.Proofs.YtnebadlakmlkkaaW.PrintMore
set_option linter.unusedVariables false
set_option linter.unusedSimpArgs false

theorem rd_get (l : List Int) (i : Nat) (h : i < l.length) : rd l (i : Int) = l[i] := by simp [rd, List.getD_eq_getElem?_getD, h]
theorem rdT_get (l : List S60) (i : Nat) (h : i < l.length) : rd_T60 l (i : Int) = l[i] := by simp [rd_T60, List.getD_eq_getElem?_getD, h]
theorem wrap_succ {i n : Nat} (h : i < n) (hn : n ≤ 9223372036854775807) : wrap64 ((i : Int) + 1) = ((i + 1 : Nat) : Int) := by unfold wrap64; omega
theorem wrap_id {x : Int} (h : -9223372036854775808 ≤ x) (h2 : x ≤ 9223372036854775807) : wrap64 x = x := by unfold wrap64; omega
theorem wf64 {x : Int} (h : (Lit.int .i64 x).wf = true) : -9223372036854775808 ≤ x ∧ x ≤ 9223372036854775807 := by
  simp [Lit.wf, IntKind.min, IntKind.max, IntKind.signed, IntKind.bits] at h
  omega

/-! May -/
theorem mayL_iff (n : Int) : ∀ (l : List Int) (last : Int), -1 ≤ last → (last = -1 ∨ last < n) → (mayL n last l = true ↔ MayF n (last + 1) l) := by
  intro l
  induction l with
  | nil => intro last h h2; simp only [mayL, MayF, decide_eq_true_eq]; omega
  | cons j t ih =>
    intro last h h2
    simp only [mayL, MayF]
    by_cases h1 : j < -1
    · rw [if_pos h1]; simp; omega
    · rw [if_neg h1]
      by_cases h3 : j ≥ n
      · rw [if_pos h3]
        simp
        refine ⟨fun e hM => ?_, by omega⟩
        have := mayF_le _ _ hM
        omega
      · rw [if_neg h3]
        by_cases h4 : j ≥ 0
        · rw [if_pos h4]
          by_cases h5 : j ≤ last
          · rw [if_pos h5]; simp; omega
          · rw [if_neg h5, show mx last j = j from by unfold mx; split <;> omega, ih j (by omega) (by omega)]
            constructor
            · intro hM; exact .inr ⟨by omega, by omega, hM⟩
            · rintro (⟨e, _⟩ | ⟨_, _, hM⟩)
              · omega
              · exact hM
        · rw [if_neg h4, show mx last j = last from by unfold mx; split <;> omega, ih last h h2]
          constructor
          · intro hM; exact .inl ⟨by omega, hM⟩
          · rintro (⟨_, hM⟩ | ⟨_, _, _⟩)
            · exact hM
            · omega
theorem mayR_l0 (n : Int) (hn : 0 ≤ n) (hn2 : n ≤ 9223372036854775807) (l : List Int) (hl : l.length ≤ 9223372036854775807) (d : Nat) : ∀ (i k : Nat) (last : Int), i ≤ l.length → l.length - i = d → d < k → -1 ≤ last → last < n ∨ last = -1 →
    sennitref04_May.l0 k l n (last + 1) (i : Int) = some (mayL n last (l.drop i)) := by
  induction d with
  | zero =>
    intro i k last hi hd hk h1 h2
    obtain ⟨k, rfl⟩ : ∃ m, k = m + 1 := ⟨k - 1, by omega⟩
    rw [sennitref04_May.l0, if_neg (by omega), List.drop_of_length_le (by omega)]
    simp [mayL, hn]
  | succ d ih =>
    intro i k last hi hd hk h1 h2
    obtain ⟨k, rfl⟩ : ∃ m, k = m + 1 := ⟨k - 1, by omega⟩
    have hlt : i < l.length := by omega
    rw [sennitref04_May.l0, if_pos (by omega), if_pos (by omega), rd_get _ _ hlt, wrap_succ hlt hl, List.drop_eq_getElem_cons hlt]
    simp only [mayL]
    by_cases e : l[i] = -1
    · rw [if_pos e, ih (i + 1) k last (by omega) (by omega) (by omega) h1 h2, e, if_neg (by decide), if_neg (by omega), if_neg (by decide), show mx last (-1) = last from by unfold mx; split <;> omega]
    · rw [if_neg e]
      by_cases e1 : l[i] < last + 1
      · rw [if_pos e1]
        by_cases e2 : l[i] < -1
        · rw [if_pos e2]
        · rw [if_neg e2]
          by_cases e3 : l[i] ≥ n
          · rw [if_pos e3]
          · rw [if_neg e3, if_pos (by omega), if_pos (by omega)]
      · have e4 : ¬ l[i] < -1 := by omega
        rw [if_neg e1, if_neg e4]
        by_cases e3 : l[i] ≥ n
        · rw [if_pos e3, if_pos e3]
        · rw [if_neg e3, if_neg e3, if_pos (by omega), if_neg (by omega), wrap_id (by omega) (by omega), ih (i + 1) k l[i] (by omega) (by omega) (by omega) (by omega) (by omega), show mx last l[i] = l[i] from by unfold mx; split <;> omega]
theorem mayR_f (n : Int) (hn2 : n ≤ 9223372036854775807) (l : List Int) (hl : l.length ≤ 9223372036854775807) (k : Nat) (hk : l.length < k) : sennitref04_May.f k l n = some (decide (MayF n 0 l)) := by
  have e : mayL n (-1) l = decide (MayF n 0 l) := by
    rw [Bool.eq_iff_iff, decide_eq_true_eq]; exact mayL_iff n l (-1) (by omega) (.inl rfl)
  unfold sennitref04_May.f
  by_cases h : n < 0
  · rw [if_pos h]
    have : ¬ MayF n 0 l := fun hM => by have := mayF_le _ _ hM; omega
    simp [this]
  · rw [if_neg h, ← e]
    have := mayR_l0 n (by omega) hn2 l hl l.length 0 k (-1) (by omega) (by omega) hk (by omega) (by omega)
    simpa using this

/-! Changes -/
theorem runC_chg (n : Int) (hn : n ≤ 1000000) : ∀ (t : List Int) (i : Nat) (acc : List S60) (x y : Int), 0 ≤ x → x ≤ i → i + t.length ≤ 1000000 → 0 ≤ y → MayF n y t →
    ((prsL i t ++ [(((i + t.length : Nat) : Int), n)]).foldl stepC ⟨acc, x, y⟩).l = acc ++ chg n i x y t := by
  intro t
  induction t with
  | nil =>
    intro i acc x y hx hxi hb hy hM
    simp only [prsL, List.nil_append, List.foldl_cons, List.foldl_nil, stepC, List.length_nil, Nat.add_zero, chg]
    by_cases h : x < i ∨ y < n
    · rw [if_pos (by omega), if_pos h]
    · rw [if_neg (by omega), if_neg h, List.append_nil]
  | cons j t ih =>
    intro i acc x y hx hxi hb hy hM
    rw [List.length_cons] at hb
    rw [List.length_cons, show i + (t.length + 1) = (i + 1) + t.length from by omega, prsL, chg]
    rcases hM with ⟨rfl, hM⟩ | ⟨h1, h2, hM⟩
    · rw [if_neg (by omega), if_pos (by omega), ih (i + 1) acc x y hx (by omega) (by omega) hy hM]
      rfl
    · rw [if_pos (by omega), if_neg (by omega)]
      have hs : stepC ⟨acc, x, y⟩ ((i : Int), j) = ⟨if x < i ∨ y < j then acc ++ [⟨⟨x, i⟩, ⟨y, j⟩⟩] else acc, (i : Int) + 1, j + 1⟩ := by
        simp only [stepC, wrap_id (x := (i : Int) + 1) (by omega) (by omega), wrap_id (x := j + 1) (by omega) (by omega), gt_iff_lt]
      rw [List.cons_append, List.foldl_cons, hs, ih (i + 1) _ _ _ (by omega) (by omega) (by omega) (by omega) hM]
      split
      · rw [List.append_assoc]; rfl
      · rfl
theorem changesG_eq (l : List Int) (n : Int) (hl : l.length ≤ 2000) (hn : n ≤ 2000) (hM : MayF n 0 l) : changesG l n = chg n 0 0 0 l := by
  have := runC_chg n (by omega) l 0 [] 0 0 (by omega) (by omega) (by omega) (by omega) hM
  simpa [changesG, runC, prs] using this
theorem Changes_f (k : Nat) (l : List Int) (n : Int) : edit_Changes.f k l n = some (if (l.length : Int) > 2000 ∨ n > 2000 then ([], 4) else if MayF n 0 l then (chg n 0 0 0 l, 0) else ([], 1)) := by
  unfold edit_Changes.f
  by_cases h : (l.length : Int) > 2000 ∨ n > 2000
  · rw [if_pos h, if_pos h]
  · rw [if_neg h, if_neg h]
    have e := mayL_iff n l (-1) (by omega) (.inl rfl)
    by_cases h2 : MayF n 0 l
    · rw [if_pos (e.2 h2), if_pos h2, changesG_eq l n (by omega) (by omega) h2]
    · rw [if_neg (fun h3 => h2 (e.1 h3)), if_neg h2]
theorem chgR_l0 (n : Int) (hn : n ≤ 2000) (l : List Int) (hl : l.length ≤ 2000) : ∀ (t : List Int) (i k : Nat) (acc : List S60) (x y : Int), l.drop i = t → i ≤ l.length → 2 * t.length + 3 ≤ k → 0 ≤ x → x ≤ i → 0 ≤ y → MayF n y t → acc.length ≤ i →
    sennitref04_Changes.l0 k l n acc x y (i : Int) = some (acc ++ chg n i x y t, 0) := by
  intro t
  induction t with
  | nil =>
    intro i k acc x y ht hi hk hx hxi hy hM ha
    obtain ⟨k, rfl⟩ : ∃ m, k = m + 3 := ⟨k - 3, by omega⟩
    have hle : l.length ≤ i := by simpa using ht
    have hil : i = l.length := by omega
    have hyn : y ≤ n := hM
    rw [sennitref04_Changes.l0, if_pos (by omega), if_neg (by omega), sennitref04_Changes.j2, if_neg (by omega), wrap_id (x := (i : Int) + 1) (by omega) (by omega), chg]
    by_cases h1 : x < i
    · rw [if_pos h1, if_pos (by omega), if_pos (by omega), sennitref04_Changes.l0, if_neg (by omega)]
    · rw [if_neg h1]
      by_cases h2 : y < n
      · rw [if_pos h2, if_pos (by omega), if_pos (by omega), sennitref04_Changes.l0, if_neg (by omega)]
      · rw [if_neg h2, if_neg (by omega), sennitref04_Changes.l0, if_neg (by omega), List.append_nil]
  | cons j t ih =>
    intro i k acc x y ht hi hk hx hxi hy hM ha
    rw [List.length_cons] at hk
    obtain ⟨k, rfl⟩ : ∃ m, k = m + 2 := ⟨k - 2, by omega⟩
    have hlt : i < l.length := by
      rcases Nat.lt_or_ge i l.length with h | h
      · exact h
      · rw [List.drop_of_length_le h] at ht; cases ht
    rw [List.drop_eq_getElem_cons hlt] at ht
    injection ht with hj ht
    rw [sennitref04_Changes.l0, if_pos (by omega), if_pos (by omega), if_pos (by omega), rd_get _ _ hlt, hj, sennitref04_Changes.j2, wrap_succ hlt (by omega), chg]
    rcases hM with ⟨rfl, hM⟩ | ⟨h1, h2, hM⟩
    · rw [if_pos rfl, if_pos (by omega), ih (i + 1) k acc x y ht (by omega) (by omega) hx (by omega) hy hM (by omega)]
      rfl
    · have hj1 : ¬ j = -1 := by omega
      have hj0 : ¬ j < 0 := by omega
      rw [if_neg hj1, if_neg hj0, wrap_id (x := j + 1) (by omega) (by omega)]
      by_cases h3 : x < i
      · rw [if_pos h3, if_pos (by omega), if_pos (by omega), ih (i + 1) k _ _ _ ht (by omega) (by omega) (by omega) (by omega) (by omega) hM (by simp; omega), List.append_assoc]
        rfl
      · rw [if_neg h3]
        by_cases h4 : y < j
        · rw [if_pos h4, if_pos (by omega), if_pos (by omega), ih (i + 1) k _ _ _ ht (by omega) (by omega) (by omega) (by omega) (by omega) hM (by simp; omega), List.append_assoc]
          rfl
        · rw [if_neg h4, if_neg (by omega), ih (i + 1) k _ _ _ ht (by omega) (by omega) (by omega) (by omega) (by omega) hM (by omega)]
          rfl
theorem ChangesR_f (l : List Int) (n : Int) (hl : l.length ≤ 9223372036854775807) (hn : n ≤ 9223372036854775807) (k : Nat) (hk : 2 * min l.length 2000 + l.length + 10 ≤ k) :
    sennitref04_Changes.f k l n = some (if (l.length : Int) > 2000 ∨ n > 2000 then ([], 4) else if MayF n 0 l then (chg n 0 0 0 l, 0) else ([], 1)) := by
  obtain ⟨k, rfl⟩ : ∃ m, k = m + 1 := ⟨k - 1, by omega⟩
  unfold sennitref04_Changes.f
  by_cases h1 : (l.length : Int) > 2000
  · rw [if_pos h1, if_pos (.inl h1), sennitref04_Changes.j0, if_pos rfl]
  · rw [if_neg h1, sennitref04_Changes.j0]
    by_cases h2 : n > 2000
    · rw [if_pos (by simpa using h2), if_pos (.inr h2)]
    · rw [if_neg (by simpa using h2), if_neg (by omega), mayR_f n hn l hl k (by omega), Option.bind_some]
      by_cases h3 : MayF n 0 l
      · rw [if_pos h3, if_pos (by simpa using h3)]
        have := chgR_l0 n (by omega) l (by omega) l 0 k [] 0 0 rfl (by omega) (by omega) (by omega) (by omega) (by omega) h3 (by simp)
        simpa using this
      · rw [if_neg h3, if_neg (by simpa using h3)]

/-! Same -/
theorem same02_l0 (a b : List Int) (hab : a.length = b.length) (hm : a.length ≤ 9223372036854775807) (d : Nat) : ∀ (i k : Nat), i ≤ a.length → a.length - i = d → d < k →
    sennitref02_Same.l0 k a b (i : Int) = some (decide (a.drop i = b.drop i)) := by
  induction d with
  | zero =>
    intro i k hi hd hk
    obtain ⟨k, rfl⟩ : ∃ m, k = m + 1 := ⟨k - 1, by omega⟩
    rw [sennitref02_Same.l0, if_neg (by omega), List.drop_of_length_le (by omega), List.drop_of_length_le (by omega)]
    simp
  | succ d ih =>
    intro i k hi hd hk
    obtain ⟨k, rfl⟩ : ∃ m, k = m + 1 := ⟨k - 1, by omega⟩
    have hlt : i < a.length := by omega
    have hlt2 : i < b.length := by omega
    rw [sennitref02_Same.l0, if_pos (by omega), if_pos (by omega), if_pos (by omega), wrap_succ hlt hm, ih (i + 1) k (by omega) (by omega) (by omega)]
    have d1 := List.drop_eq_getElem_cons hlt
    have d2 := List.drop_eq_getElem_cons hlt2
    have ee : (a.drop i = b.drop i) ↔ (a[i] = b[i] ∧ a.drop (i + 1) = b.drop (i + 1)) := by rw [d1, d2, List.cons.injEq]
    rw [rd_get _ _ hlt, rd_get _ _ hlt2]
    by_cases h : a[i] = b[i]
    · rw [if_pos h]
      congr 1
      simp only [ee, h, true_and]
    · rw [if_neg h]
      congr 1
      simp only [ee, h, false_and, decide_false]
theorem same02_f (a b : List Int) (hm : a.length ≤ 9223372036854775807) (k : Nat) (hk : a.length < k) : sennitref02_Same.f k a b = some (decide (a = b)) := by
  unfold sennitref02_Same.f
  by_cases h : a.length = b.length
  · rw [if_pos (by omega)]
    have := same02_l0 a b h hm a.length 0 k (by omega) (by omega) hk
    simpa using this
  · rw [if_neg (by omega)]
    have : ¬ a = b := fun e => h (by rw [e])
    simp [this]
instance : DecidableEq S36 := fun a b => decidable_of_iff (a.f0 = b.f0 ∧ a.f1 = b.f1) ⟨fun ⟨x, y⟩ => by cases a; cases b; simp_all, fun h => by rw [h]; exact ⟨rfl, rfl⟩⟩
instance : DecidableEq S60 := fun a b => decidable_of_iff (a.f0 = b.f0 ∧ a.f1 = b.f1) ⟨fun ⟨x, y⟩ => by cases a; cases b; simp_all, fun h => by rw [h]; exact ⟨rfl, rfl⟩⟩
theorem s60_ne (a b : S60) : ((!((a.f0.f0 == b.f0.f0)) || (!(a.f0.f1 == b.f0.f1))) || ((!(a.f1.f0 == b.f1.f0)) || (!(a.f1.f1 == b.f1.f1)))) = true ↔ ¬ a = b := by
  obtain ⟨⟨a1, a2⟩, ⟨a3, a4⟩⟩ := a
  obtain ⟨⟨b1, b2⟩, ⟨b3, b4⟩⟩ := b
  simp only [S60.mk.injEq, S36.mk.injEq, Bool.or_eq_true, Bool.not_eq_true', beq_eq_false_iff_ne, ne_eq]
  omega
theorem same04_l0 (a b : List S60) (hab : a.length = b.length) (hm : a.length ≤ 9223372036854775807) (d : Nat) : ∀ (i k : Nat), i ≤ a.length → a.length - i = d → d < k →
    sennitref04_Same.l0 k a b (i : Int) = some (decide (a.drop i = b.drop i)) := by
  induction d with
  | zero =>
    intro i k hi hd hk
    obtain ⟨k, rfl⟩ : ∃ m, k = m + 1 := ⟨k - 1, by omega⟩
    rw [sennitref04_Same.l0, if_neg (by omega), List.drop_of_length_le (by omega), List.drop_of_length_le (by omega)]
    simp
  | succ d ih =>
    intro i k hi hd hk
    obtain ⟨k, rfl⟩ : ∃ m, k = m + 1 := ⟨k - 1, by omega⟩
    have hlt : i < a.length := by omega
    have hlt2 : i < b.length := by omega
    rw [sennitref04_Same.l0, if_pos (by omega), if_pos (by omega), if_pos (by omega), wrap_succ hlt hm, ih (i + 1) k (by omega) (by omega) (by omega)]
    have d1 := List.drop_eq_getElem_cons hlt
    have d2 := List.drop_eq_getElem_cons hlt2
    have ee : (a.drop i = b.drop i) ↔ (a[i] = b[i] ∧ a.drop (i + 1) = b.drop (i + 1)) := by rw [d1, d2, List.cons.injEq]
    rw [rdT_get _ _ hlt, rdT_get _ _ hlt2]
    by_cases h : a[i] = b[i]
    · rw [if_neg (fun h2 => (s60_ne _ _).1 h2 h)]
      congr 1
      simp only [ee, h, true_and]
    · rw [if_pos ((s60_ne _ _).2 h)]
      congr 1
      simp only [ee, h, false_and, decide_false]
theorem same04_f (a b : List S60) (hm : a.length ≤ 9223372036854775807) (k : Nat) (hk : a.length < k) : sennitref04_Same.f k a b = some (decide (a = b)) := by
  unfold sennitref04_Same.f
  by_cases h : a.length = b.length
  · rw [if_pos (by omega)]
    have := same04_l0 a b h hm a.length 0 k (by omega) (by omega) hk
    simpa using this
  · rw [if_neg (by omega)]
    have : ¬ a = b := fun e => h (by rw [e])
    simp [this]

/-! Swap -/
theorem swap_l0 (l : List S60) (hl : l.length ≤ 1000000) (d : Nat) : ∀ (i k : Nat) (acc : List S60), i ≤ l.length → l.length - i = d → d < k → acc.length = i →
    edit_Swap.l0 k acc l (l.length : Int) (i : Int) = some (acc ++ (l.drop i).map swp) := by
  induction d with
  | zero =>
    intro i k acc hi hd hk ha
    obtain ⟨k, rfl⟩ : ∃ m, k = m + 1 := ⟨k - 1, by omega⟩
    rw [edit_Swap.l0, if_neg (by omega), List.drop_of_length_le (by omega)]
    simp
  | succ d ih =>
    intro i k acc hi hd hk ha
    obtain ⟨k, rfl⟩ : ∃ m, k = m + 1 := ⟨k - 1, by omega⟩
    have hlt : i < l.length := by omega
    rw [edit_Swap.l0, if_pos (by omega), if_pos (by omega), if_pos (by omega), if_pos (by omega), wrap_succ hlt (by omega), ih (i + 1) k _ (by omega) (by omega) (by omega) (by simp; omega), rdT_get _ _ hlt, List.drop_eq_getElem_cons hlt, List.map_cons, List.append_assoc]
    rfl
theorem Swap_f (l : List S60) (hl : l.length ≤ 1000000) (k : Nat) (hk : l.length < k) : edit_Swap.f k l = some (l.map swp) := by
  have := swap_l0 l hl l.length 0 k [] (by omega) (by omega) hk rfl
  simpa [edit_Swap.f] using this

/-! The guess -/
theorem inNew_l0 (l : List S60) (hl : l.length ≤ 1000000) (j : Int) (d : Nat) : ∀ (i k : Nat), i ≤ l.length → l.length - i = d → d < k → sennitref04_inNew.l0 k l j (i : Int) = some (newB (l.drop i) j) := by
  induction d with
  | zero =>
    intro i k hi hd hk
    obtain ⟨k, rfl⟩ : ∃ m, k = m + 1 := ⟨k - 1, by omega⟩
    rw [sennitref04_inNew.l0, if_neg (by omega), List.drop_of_length_le (by omega)]
    rfl
  | succ d ih =>
    intro i k hi hd hk
    obtain ⟨k, rfl⟩ : ∃ m, k = m + 1 := ⟨k - 1, by omega⟩
    have hlt : i < l.length := by omega
    rw [sennitref04_inNew.l0, if_pos (by omega), if_pos (by omega), wrap_succ hlt (by omega), ih (i + 1) k (by omega) (by omega) (by omega), rdT_get _ _ hlt, List.drop_eq_getElem_cons hlt]
    generalize l.drop (i + 1) = T
    by_cases h1 : j ≥ l[i].f1.f0
    · rw [if_pos h1]
      by_cases h2 : j < l[i].f1.f1
      · rw [if_pos h2]; simp [newB, h1, h2]
      · rw [if_neg h2]; simp [newB, h2]
    · rw [if_neg h1]
      have : ¬ l[i].f1.f0 ≤ j := by omega
      simp [newB, this]
theorem inNew_f (l : List S60) (hl : l.length ≤ 1000000) (j : Int) (k : Nat) (hk : l.length < k) : sennitref04_inNew.f k l j = some (newB l j) := by
  have := inNew_l0 l hl j l.length 0 k (by omega) (by omega) hk
  simpa [sennitref04_inNew.f] using this
theorem guess_l1 (l : List S60) (hl : l.length ≤ 1000000) (m n : Int) (out : List Int) (j i : Int) (d : Nat) : ∀ (q k : Nat) (b : Bool), q ≤ l.length → l.length - q = d →
    sennitref04_guess.l1 (k + d + 1) l m n out j i b (q : Int) = sennitref04_guess.l2 k l m n out j i (b || oldB (l.drop q) i) := by
  induction d with
  | zero =>
    intro q k b hq hd
    rw [sennitref04_guess.l1, if_neg (by omega), List.drop_of_length_le (by omega)]
    simp [oldB]
  | succ d ih =>
    intro q k b hq hd
    have hlt : q < l.length := by omega
    rw [show k + (d + 1) + 1 = (k + d + 1) + 1 from rfl, sennitref04_guess.l1, if_pos (by omega), wrap_succ hlt (by omega), ih (q + 1) k _ (by omega) (by omega), ih (q + 1) k _ (by omega) (by omega), ih (q + 1) k _ (by omega) (by omega), rdT_get _ _ hlt, List.drop_eq_getElem_cons hlt]
    generalize l.drop (q + 1) = T
    cases b with
    | true => simp
    | false =>
      rw [if_neg (by decide), if_pos (by omega)]
      by_cases h1 : i ≥ l[q].f0.f0
      · rw [if_pos h1]; simp [oldB, h1]
      · rw [if_neg h1]
        have : ¬ l[q].f0.f0 ≤ i := by omega
        simp [oldB, this]
theorem guess_l2 (l : List S60) (hl : l.length ≤ 1000000) (m n : Int) (hn : n ≤ 1000000) (out : List Int) (ho : out.length ≤ 1000000) (i : Int) (b : Bool) (d : Nat) : ∀ (k : Nat) (j : Int), 0 ≤ j → d = (n - j).toNat → l.length < k →
    sennitref04_guess.l2 (k + d + 1) l m n out j i b = if b = true ∨ skp l n d j ≥ n then sennitref04_guess.l0 (k + d - (skp l n d j - j).toNat) l m n (out ++ [-1]) (skp l n d j) (wrap64 (i + 1)) else sennitref04_guess.l0 (k + d - (skp l n d j - j).toNat) l m n (out ++ [skp l n d j]) (skp l n d j + 1) (wrap64 (i + 1)) := by
  induction d with
  | zero =>
    intro k j hj hd hk
    have hlen : out.length < 17592186044416 := by omega
    rw [sennitref04_guess.l2, if_neg (by omega)]
    simp only [skp, Int.sub_self, Int.toNat_zero, Nat.sub_zero, Nat.add_zero]
    rw [if_pos (show b = true ∨ j ≥ n from .inr (by omega)), if_pos (show j ≥ n by omega), if_pos hlen]
    split <;> rfl
  | succ d ih =>
    intro k j hj hd hk
    have hlen : out.length < 17592186044416 := by omega
    have hjn : j < n := by omega
    rw [show k + (d + 1) + 1 = (k + d + 1) + 1 from rfl, sennitref04_guess.l2, if_pos hjn, inNew_f l hl j _ (by omega), Option.bind_some, skp, if_pos hjn]
    cases hb : newB l j with
    | true =>
      obtain ⟨a, _, _, _⟩ := skp_spec l n d (j + 1) (by omega)
      rw [if_pos rfl, if_pos rfl, wrap_id (x := j + 1) (by omega) (by omega), ih k (j + 1) (by omega) (by omega) hk]
      have : k + (d + 1) - (skp l n d (j + 1) - j).toNat = k + d - (skp l n d (j + 1) - (j + 1)).toNat := by omega
      rw [this]
    | false =>
      rw [if_neg (show ¬ (false = true) by decide), if_neg (show ¬ (false = true) by decide)]
      simp only [Int.sub_self, Int.toNat_zero, Nat.sub_zero]
      rw [if_neg (show ¬ j ≥ n by omega), if_pos hlen, if_pos hlen, wrap_id (x := j + 1) (by omega) (by omega), show k + (d + 1) = k + d + 1 from rfl]
      cases b with
      | true => simp
      | false => simp [show ¬ n ≤ j from by omega]
theorem guess_l0 (l : List S60) (hl : l.length ≤ 1000) (m n : Int) (hm : m ≤ 1000) (hn0 : 0 ≤ n) (hn : n ≤ 1000) (c : Nat) : ∀ (i : Nat) (k : Nat) (out : List Int) (j : Int), 0 ≤ j → j ≤ n → c = (m - i).toNat → out.length = i → (c + 1) * (2 * l.length + n.toNat + 10) ≤ k →
    sennitref04_guess.l0 k l m n out j (i : Int) = some (out ++ gss l n c i j) := by
  induction c with
  | zero =>
    intro i k out j hj hjn hc ho hk
    obtain ⟨k, rfl⟩ : ∃ q, k = q + 1 := ⟨k - 1, by omega⟩
    rw [sennitref04_guess.l0, if_neg (by omega), gss, List.append_nil]
  | succ c ih =>
    intro i k out j hj hjn hc ho hk
    rw [Nat.succ_mul] at hk
    have hge : 2 * l.length + n.toNat + 10 ≤ (c + 1) * (2 * l.length + n.toNat + 10) := Nat.le_mul_of_pos_left _ (by omega)
    obtain ⟨k, rfl⟩ : ∃ q, k = q + (n - j).toNat + 1 + l.length + 1 + 1 := ⟨k - ((n - j).toNat + l.length + 3), by omega⟩
    obtain ⟨a, b, _, _⟩ := skp_spec l n (n - j).toNat j rfl
    rw [sennitref04_guess.l0, if_pos (by omega)]
    have e1 := guess_l1 l (by omega) m n out j i l.length 0 (k + (n - j).toNat + 1) false (by omega) (by omega)
    rw [show ((0 : Nat) : Int) = 0 from rfl] at e1
    rw [e1, List.drop_zero, Bool.false_or, guess_l2 l (by omega) m n (by omega) out (by omega) i _ (n - j).toNat k j hj rfl (by omega), wrap_id (x := (i : Int) + 1) (by omega) (by omega), gss]
    have hb : (c + 1) * (2 * l.length + n.toNat + 10) ≤ k + (n - j).toNat - (skp l n (n - j).toNat j - j).toNat := by omega
    split
    · have := ih (i + 1) _ (out ++ [-1]) (skp l n (n - j).toNat j) (by omega) (by omega) (by omega) (by simp; omega) hb
      rw [show ((i + 1 : Nat) : Int) = (i : Int) + 1 from rfl] at this
      rw [this, List.append_assoc]; rfl
    · have := ih (i + 1) _ (out ++ [skp l n (n - j).toNat j]) (skp l n (n - j).toNat j + 1) (by omega) (by omega) (by omega) (by simp; omega) hb
      rw [show ((i + 1 : Nat) : Int) = (i : Int) + 1 from rfl] at this
      rw [this, List.append_assoc]; rfl
theorem guess_f (l : List S60) (hl : l.length ≤ 1000) (m n : Int) (hm : m ≤ 1000) (hn0 : 0 ≤ n) (hn : n ≤ 1000) (k : Nat) (hk : (m.toNat + 1) * (2 * l.length + n.toNat + 10) ≤ k) : sennitref04_guess.f k l m n = some (gss l n m.toNat 0 0) := by
  have := guess_l0 l hl m n hm hn0 hn m.toNat 0 k [] 0 (by omega) hn0 (by omega) rfl hk
  simpa [sennitref04_guess.f] using this

/-! Match -/
theorem runK_run (d : Nat) : ∀ (o : List Int) (y : Int), 0 ≤ y → y + d ≤ 1000000 → runK d o y = (o ++ run d y, y + d) := by
  induction d with
  | zero => intro o y h0 h; simp [runK, run]
  | succ d ih =>
    intro o y h0 h
    rw [runK, wrap_id (x := y + 1) (by omega) (by omega), ih _ _ (by omega) (by omega), run]
    simp; omega
theorem okK_iff (m n : Int) (o : List Int) (y t e : Int) (hm : m ≤ 2000) (hn : n ≤ 2000) (hy : 0 ≤ y) (hyn : y ≤ n) (he : -9223372036854775808 ≤ e) : okK m n o y t e = true ↔ okP m n o.length y t e := by
  unfold okK okP
  simp only [Bool.and_eq_true, decide_eq_true_eq]
  constructor
  · rintro ⟨h1, h2, h3, h4⟩
    refine ⟨h1, h2, h3, ?_⟩
    unfold wrap64 at h4
    omega
  · rintro ⟨h1, h2, h3, h4⟩
    exact ⟨h1, h2, h3, by rw [h4]⟩
theorem matchL_mtc (m n : Int) (hm : m ≤ 2000) (hn : n ≤ 2000) (hm0 : 0 ≤ m) : ∀ (l : List S60) (i : Nat) (o : List Int) (y : Int), 0 ≤ y → y ≤ n → (∀ c ∈ l, -9223372036854775808 ≤ c.f1.f0) → matchL m n i l o y = mtc m n i l o y := by
  intro l
  induction l with
  | nil =>
    intro i o y h0 h1 hl
    rw [matchL, mtc]
    have e := okK_iff m n o y m n hm hn h0 h1 (by omega)
    by_cases h : okP m n o.length y m n
    · rw [if_pos (e.2 h), if_pos h]
      unfold keepG
      obtain ⟨k1, k2, k3, k4⟩ := h
      rw [if_pos (e.2 ⟨k1, k2, k3, k4⟩), runK_run _ _ _ h0 (by omega)]
    · rw [if_neg (fun h2 => h (e.1 h2)), if_neg h]
  | cons c t ih =>
    intro i o y h0 h1 hl
    obtain ⟨⟨x, i'⟩, ⟨e, j⟩⟩ := c
    have hle := hl _ (List.mem_cons_self ..)
    simp only at hle
    have eo := okK_iff m n o y x e hm hn h0 h1 hle
    rw [matchL, mtc]
    by_cases h : okP m n o.length y x e
    · have hk := eo.2 h
      obtain ⟨k1, k2, k3, k4⟩ := h
      have hkeep : keepG m n o y x e = (o ++ run (x.toNat - o.length) y, e) := by
        unfold keepG
        rw [if_pos hk, runK_run _ _ _ h0 (by omega)]
        congr 1; omega
      simp only [hkeep, hk]
      have hlen : (o ++ run (x.toNat - o.length) y).length = o.length + (x.toNat - o.length) := by simp [run_len]
      have hbad : badG m n i o.length true (o ++ run (x.toNat - o.length) y, e) ⟨⟨x, i'⟩, ⟨e, j⟩⟩ = true ↔ ¬ (okP m n o.length y x e ∧ ¬ (0 < i ∧ x = o.length) ∧ (x < i' ∨ e < j) ∧ x ≤ i' ∧ i' ≤ m ∧ e ≤ j ∧ j ≤ n) := by
        unfold badG okP
        simp only [hlen, Bool.not_true, Bool.false_or, Bool.or_eq_true, Bool.and_eq_true, decide_eq_true_eq, Bool.not_eq_true', Bool.or_eq_false_iff, decide_eq_false_iff_not]
        omega
      by_cases hb : okP m n o.length y x e ∧ ¬ (0 < i ∧ x = o.length) ∧ (x < i' ∨ e < j) ∧ x ≤ i' ∧ i' ≤ m ∧ e ≤ j ∧ j ≤ n
      · rw [if_neg (fun h2 => hbad.1 h2 hb), if_pos hb, hlen, show i'.toNat - (o.length + (x.toNat - o.length)) = i'.toNat - x.toNat from by omega]
        exact ih _ _ _ (by omega) (by omega) (fun c hc => hl c (List.mem_cons_of_mem _ hc))
      · rw [if_pos (hbad.2 hb), if_neg hb]
    · have hk : okK m n o y x e = false := by
        cases hc : okK m n o y x e
        · rfl
        · exact absurd (eo.1 hc) h
      have hbt : badG m n i o.length (okK m n o y x e) (keepG m n o y x e) ⟨⟨x, i'⟩, ⟨e, j⟩⟩ = true := by simp only [hk, badG]; rfl
      have hnb : ¬ (okP m n o.length y x e ∧ ¬ (0 < i ∧ x = o.length) ∧ (x < i' ∨ e < j) ∧ x ≤ i' ∧ i' ≤ m ∧ e ≤ j ∧ j ≤ n) := fun h2 => h h2.1
      rw [if_pos hbt, if_neg hnb]
/-- What the match of changes is, by definition. -/
theorem matchG_eq (l : List S60) (m n : Int) (hm : m ≤ 2000) (hn : n ≤ 2000) (hl : ∀ c ∈ l, -9223372036854775808 ≤ c.f1.f0) :
    matchG l m n = if m < 0 ∨ n < 0 then ([], 1) else if MayF n 0 (gss l n m.toNat 0 0) ∧ chg n 0 0 0 (gss l n m.toNat 0 0) = l then (gss l n m.toNat 0 0, 0) else ([], 1) := by
  unfold matchG
  rw [if_neg (by omega)]
  by_cases h : m < 0 ∨ n < 0
  · rw [if_pos h, if_pos h]
  · rw [if_neg h, if_neg h, matchL_mtc m n hm hn (by omega) l 0 [] 0 (by omega) (by omega) hl]
    have hg := gss_len l n m.toNat 0 0
    cases hc : mtc m n 0 l [] 0 with
    | some o =>
      obtain ⟨s, es, h2, h3, h4, _⟩ := mtc_sound m n l 0 [] o 0 (by omega) (by omega) (by simp; omega) hc
      simp only [List.length_nil, List.nil_append] at h2 h4 es ⊢
      subst es
      have h2' : (o.length : Int) = m := by simpa using h2
      have h4' : chg n 0 0 0 o = l := h4
      have h5 := gss_back n o h3
      rw [h4', show o.length = m.toNat from by omega] at h5
      rw [h5, if_pos ⟨h3, h4'⟩]
    | none =>
      simp only
      rw [if_neg]
      rintro ⟨h1, h2⟩
      have h3 := mtc_back n _ h1
      rw [h2, hg, show ((m.toNat : Nat) : Int) = m from by omega, hc] at h3
      cases h3
theorem matchG_long (l : List S60) (m n : Int) (h : m > 2000 ∨ n > 2000) : matchG l m n = ([], 4) := by unfold matchG; rw [if_pos h]
theorem matchG_back (n : Int) (o : List Int) (ho : o.length ≤ 2000) (hn : n ≤ 2000) (hM : MayF n 0 o) : matchG (chg n 0 0 0 o) o.length n = (o, 0) := by
  have hn0 := mayF_le _ _ hM
  have hlow : ∀ c ∈ chg n 0 0 0 o, -9223372036854775808 ≤ c.f1.f0 := by
    have : ∀ (l : List S60) (a b : Int), Far o.length n a b l → -1 ≤ b → ∀ c ∈ l, -9223372036854775808 ≤ c.f1.f0 := by
      intro l
      induction l with
      | nil => intro a b _ _ c hc; cases hc
      | cons c t ih =>
        rintro a b ⟨f1, f2, f3, f4, f5, f6, f7⟩ hb c' hc
        rcases List.mem_cons.1 hc with rfl | hc
        · omega
        · exact ih _ _ f7 (by omega) c' hc
    exact this _ (-1) (-1) (far_chg n o.length o 0 0 0 (-1) (-1) (by omega) (by omega) (by omega) hM (by omega) (by omega)) (by omega)
  have e := gss_back n o hM
  rw [matchG_eq _ _ _ (by omega) hn hlow, if_neg (by omega), show ((o.length : Int)).toNat = o.length from by omega, e, if_pos ⟨hM, rfl⟩]
theorem MatchR_f (l : List S60) (hl : l.length ≤ 1000) (m n : Int) (hm : m ≤ 300) (hn : n ≤ 300) (k : Nat) (hk : 700000 ≤ k) :
    sennitref04_Match.f k l m n = some (if m < 0 ∨ n < 0 then ([], 1) else if chg n 0 0 0 (gss l n m.toNat 0 0) = l then (gss l n m.toNat 0 0, 0) else ([], 1)) := by
  obtain ⟨k, rfl⟩ : ∃ q, k = q + 2 := ⟨k - 2, by omega⟩
  have tail : ∀ b, b = decide (m < 0 ∨ n < 0) → sennitref04_Match.j1 (k + 1) l m n b = some (if m < 0 ∨ n < 0 then ([], 1) else if chg n 0 0 0 (gss l n m.toNat 0 0) = l then (gss l n m.toNat 0 0, 0) else ([], 1)) := by
    rintro b rfl
    rw [sennitref04_Match.j1]
    by_cases h : m < 0 ∨ n < 0
    · rw [if_pos (by simpa using h), if_pos h]
    · have hM : MayF n 0 (gss l n m.toNat 0 0) := gss_may l n _ _ _ (by omega) (by omega)
      have hg := gss_len l n m.toNat 0 0
      have hmul : (m.toNat + 1) * (2 * l.length + n.toNat + 10) ≤ 301 * 2310 := Nat.mul_le_mul (by omega) (by omega)
      have hc := chg_len n (gss l n m.toNat 0 0) 0 0 0
      rw [if_neg (by simpa using h), if_neg h, guess_f l hl m n (by omega) (by omega) (by omega) k (by omega), Option.bind_some, ChangesR_f _ n (by omega) (by omega) k (by omega), Option.bind_some, if_neg (by omega), if_pos hM, same04_f _ _ (by simp only; omega) k (by simp only; omega), Option.bind_some]
      by_cases h2 : chg n 0 0 0 (gss l n m.toNat 0 0) = l
      · rw [if_pos (by simpa using h2), if_pos h2]
      · rw [if_neg (by simpa using h2), if_neg h2]
  unfold sennitref04_Match.f
  rw [if_neg (by omega), decide_eq_false (by omega), sennitref04_Match.j0, if_neg (by decide)]
  by_cases h : m < 0
  · rw [if_pos h]; exact tail true (by simp [h])
  · rw [if_neg h]; exact tail _ (by simp [h])
end Go.Proofs.Ytnebadlakmlkkaa.Pure
