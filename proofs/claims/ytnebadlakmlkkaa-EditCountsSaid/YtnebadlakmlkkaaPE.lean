/- What the changes of a match are, and the match of changes: plain Lean, no program in sight. -/
import Derived.Test.YtnebadlakmlkkaaF0
namespace Go.Proofs.Ytnebadlakmlkkaa.Pure
open Go.RowKit Go.Proofs.Ytnebadlakmlkkaa.M
set_option linter.unusedVariables false
set_option linter.unusedSimpArgs false

/-- The changes of a match t whose places begin at i; behind the last pair come the places x, and y. -/
def chg (n : Int) : Int → Int → Int → List Int → List S60
  | i, x, y, [] => if x < i ∨ y < n then [⟨⟨x, i⟩, ⟨y, n⟩⟩] else []
  | i, x, y, j :: t => if j < 0 then chg n (i + 1) x y t else if x < i ∨ y < j then ⟨⟨x, i⟩, ⟨y, j⟩⟩ :: chg n (i + 1) (i + 1) (j + 1) t else chg n (i + 1) (i + 1) (j + 1) t
/-- A match to n, from y on. -/
def MayF (n : Int) : Int → List Int → Prop
  | y, [] => y ≤ n
  | y, j :: t => (j = -1 ∧ MayF n y t) ∨ (y ≤ j ∧ j < n ∧ MayF n (j + 1) t)
instance decMayF (n : Int) : ∀ (y : Int) (t : List Int), Decidable (MayF n y t)
  | y, [] => inferInstanceAs (Decidable (y ≤ n))
  | y, j :: t =>
    have := decMayF n y t
    have := decMayF n (j + 1) t
    inferInstanceAs (Decidable ((j = -1 ∧ MayF n y t) ∨ (y ≤ j ∧ j < n ∧ MayF n (j + 1) t)))
theorem mayF_le {n : Int} : ∀ (t : List Int) (y : Int), MayF n y t → y ≤ n := by
  intro t
  induction t with
  | nil => intro y h; exact h
  | cons j t ih =>
    intro y h
    rcases h with ⟨_, h⟩ | ⟨h1, h2, _⟩
    · exact ih y h
    · omega
theorem mayF_mem {n : Int} : ∀ (t : List Int) (y : Int), MayF n y t → ∀ q ∈ t, q = -1 ∨ (y ≤ q ∧ q < n) := by
  intro t
  induction t with
  | nil => intro y h q hq; cases hq
  | cons j t ih =>
    intro y h q hq
    rcases h with ⟨rfl, h⟩ | ⟨h1, h2, h3⟩
    · rcases List.mem_cons.1 hq with rfl | hq
      · exact .inl rfl
      · exact ih y h q hq
    · rcases List.mem_cons.1 hq with rfl | hq
      · exact .inr ⟨h1, h2⟩
      · rcases ih (j + 1) h3 q hq with e | e
        · exact .inl e
        · exact .inr ⟨by omega, e.2⟩
/-- d places in turn from y on. -/
def run : Nat → Int → List Int
  | 0, _ => []
  | d + 1, y => y :: run d (y + 1)
theorem run_len (d : Nat) : ∀ y, (run d y).length = d := by
  induction d with
  | zero => intro y; rfl
  | succ d ih => intro y; simp [run, ih]
theorem run_snoc (d : Nat) : ∀ y : Int, run (d + 1) y = run d y ++ [y + (d : Int)] := by
  induction d with
  | zero => intro y; simp [run]
  | succ d ih =>
    intro y
    rw [run, ih (y + 1)]
    simp only [run, List.cons_append]
    congr 3
    omega
theorem chg_run (n : Int) (d : Nat) : ∀ (i y : Int) (t : List Int), 0 ≤ y → chg n i i y (run d y ++ t) = chg n (i + d) (i + d) (y + d) t := by
  induction d with
  | zero => intro i y t hy; simp [run]
  | succ d ih =>
    intro i y t hy
    rw [run, List.cons_append, chg, if_neg (by omega), if_neg (by omega), ih _ _ _ (by omega)]
    congr 1 <;> omega
theorem chg_reps (n : Int) (r : Nat) : ∀ (i x y : Int) (t : List Int), chg n i x y (List.replicate r (-1) ++ t) = chg n (i + r) x y t := by
  induction r with
  | zero => intro i x y t; simp
  | succ r ih =>
    intro i x y t
    rw [List.replicate_succ, List.cons_append, chg, if_pos (by omega), ih]
    congr 1; omega
theorem mayF_run {n : Int} (d : Nat) : ∀ (y : Int) (t : List Int), 0 ≤ y → MayF n (y + d) t → MayF n y (run d y ++ t) := by
  induction d with
  | zero => intro y t hy h; simpa [run] using h
  | succ d ih =>
    intro y t hy h
    rw [run, List.cons_append]
    have := mayF_le _ _ h
    refine .inr ⟨by omega, by omega, ih _ _ (by omega) ?_⟩
    rw [show y + 1 + (d : Int) = y + ((d + 1 : Nat) : Int) from by omega]
    exact h
theorem mayF_reps {n : Int} (r : Nat) (y y' : Int) (t : List Int) (hy : y ≤ y') (h : MayF n y' t) : MayF n y (List.replicate r (-1) ++ t) := by
  induction r with
  | zero =>
    have low : ∀ (t : List Int) (y y' : Int), y ≤ y' → MayF n y' t → MayF n y t := by
      intro t
      induction t with
      | nil => intro y y' hy h; have : y' ≤ n := h; show y ≤ n; omega
      | cons j t ih =>
        intro y y' hy h
        rcases h with ⟨rfl, h⟩ | ⟨h1, h2, h3⟩
        · exact .inl ⟨rfl, ih _ _ hy h⟩
        · exact .inr ⟨by omega, h2, h3⟩
    simpa using low t y y' hy h
  | succ r ih => rw [List.replicate_succ, List.cons_append]; exact .inl ⟨rfl, ih⟩

/-! Changes back into a match -/
/-- May it be kept? d places more. -/
def okP (m n a y t e : Int) : Prop := t ≥ a ∧ t ≤ m ∧ e ≤ n ∧ e - y = t - a
instance (m n a y t e : Int) : Decidable (okP m n a y t e) := by unfold okP; infer_instance
def mtc (m n : Int) : Nat → List S60 → List Int → Int → Option (List Int)
  | _, [], o, y => if okP m n o.length y m n then some (o ++ run (m.toNat - o.length) y) else none
  | i, c :: t, o, y =>
    if okP m n o.length y c.f0.f0 c.f1.f0 ∧ ¬ (0 < i ∧ c.f0.f0 = o.length) ∧ (c.f0.f0 < c.f0.f1 ∨ c.f1.f0 < c.f1.f1) ∧ c.f0.f0 ≤ c.f0.f1 ∧ c.f0.f1 ≤ m ∧ c.f1.f0 ≤ c.f1.f1 ∧ c.f1.f1 ≤ n
    then mtc m n (i + 1) t (o ++ run (c.f0.f0.toNat - o.length) y ++ List.replicate (c.f0.f1.toNat - c.f0.f0.toNat) (-1)) c.f1.f1 else none

theorem mtc_chg (m n : Int) : ∀ (t : List Int) (ki d : Nat) (i x ym : Int) (o : List Int), x = o.length + d → x ≤ i → i + t.length = m → 0 ≤ ym → MayF n (ym + d) t → (ki = 0 ∨ 1 ≤ d) →
    mtc m n ki (chg n i x (ym + d) t) o ym = some (o ++ run d ym ++ List.replicate (i - x).toNat (-1) ++ t) := by
  intro t
  induction t with
  | nil =>
    intro ki d i x ym o hx hxi him hy hM hk
    have hyn : ym + d ≤ n := hM
    simp only [List.length_nil] at him
    rw [chg]
    by_cases hc : x < i ∨ ym + d < n
    · rw [if_pos hc, mtc, if_pos ⟨⟨by show x ≥ _; omega, by show x ≤ m; omega, by show ym + d ≤ n; omega, by show ym + d - ym = x - _; omega⟩, by show ¬ (0 < ki ∧ x = _); omega, hc, by show x ≤ i; omega, by show i ≤ m; omega, hyn, Int.le_refl _⟩, mtc]
      have e1 : (x.toNat - o.length) = d := by omega
      have e2 : (i.toNat - x.toNat) = (i - x).toNat := by omega
      show (if okP m n ((o ++ run (x.toNat - o.length) ym ++ List.replicate (i.toNat - x.toNat) (-1)).length : Nat) n m n then _ else none) = _
      have e3 : ((o ++ run (x.toNat - o.length) ym ++ List.replicate (i.toNat - x.toNat) (-1)).length : Int) = m := by
        simp [run_len]; omega
      rw [if_pos ⟨by omega, by omega, by omega, by omega⟩]
      have e4 : m.toNat - (o ++ run (x.toNat - o.length) ym ++ List.replicate (i.toNat - x.toNat) (-1)).length = 0 := by omega
      show some ((o ++ run (x.toNat - o.length) ym ++ List.replicate (i.toNat - x.toNat) (-1)) ++ run (m.toNat - (o ++ run (x.toNat - o.length) ym ++ List.replicate (i.toNat - x.toNat) (-1)).length) n) = _
      rw [e4, e1, e2]
      simp [run]
    · rw [if_neg hc, mtc, if_pos ⟨by omega, by omega, by omega, by omega⟩]
      have e1 : m.toNat - o.length = d := by omega
      have e2 : (i - x).toNat = 0 := by omega
      rw [e1, e2]; simp
  | cons j t ih =>
    intro ki d i x ym o hx hxi him hy hM hk
    rw [List.length_cons] at him
    rcases hM with ⟨rfl, hM⟩ | ⟨h1, h2, hM⟩
    · rw [chg, if_pos (by omega), ih ki d (i + 1) x ym o hx (by omega) (by omega) hy hM hk]
      have : (i + 1 - x).toNat = (i - x).toNat + 1 := by omega
      rw [this, List.replicate_succ']
      simp
    · rw [chg, if_neg (by omega)]
      by_cases hc : x < i ∨ ym + d < j
      · rw [if_pos hc, mtc, if_pos ⟨⟨by show x ≥ _; omega, by show x ≤ m; omega, by show ym + d ≤ n; omega, by show ym + d - ym = x - _; omega⟩, by show ¬ (0 < ki ∧ x = _); omega, hc, by show x ≤ i; omega, by show i ≤ m; omega, h1, by show j ≤ n; omega⟩]
        have e1 : (x.toNat - o.length) = d := by omega
        have e2 : (i.toNat - x.toNat) = (i - x).toNat := by omega
        show mtc m n (ki + 1) _ (o ++ run (x.toNat - o.length) ym ++ List.replicate (i.toNat - x.toNat) (-1)) j = _
        have := ih (ki + 1) 1 (i + 1) (i + 1) j (o ++ run d ym ++ List.replicate (i - x).toNat (-1)) (by simp [run_len]; omega) (Int.le_refl _) (by omega) (by omega) hM (.inr (Nat.le_refl _))
        rw [e1, e2]
        rw [show j + ((1 : Nat) : Int) = j + 1 from rfl] at this
        rw [this]
        simp [run]
      · rw [if_neg hc]
        have := ih ki (d + 1) (i + 1) (i + 1) ym o (by omega) (Int.le_refl _) (by omega) hy (by rw [show ym + ((d + 1 : Nat) : Int) = j + 1 from by omega]; exact hM) (.inr (by omega))
        rw [show ym + ((d + 1 : Nat) : Int) = j + 1 from by omega] at this
        rw [this, run_snoc]
        have e1 : ym + (d : Int) = j := by omega
        have e2 : (i - x).toNat = 0 := by omega
        rw [e1, e2]; simp
/-- The match of a match's changes is that match. -/
theorem mtc_back (n : Int) (o : List Int) (h : MayF n 0 o) : mtc o.length n 0 (chg n 0 0 0 o) [] 0 = some o := by
  have := mtc_chg o.length n o 0 0 0 0 0 [] (by simp) (by omega) (by omega) (by omega) (by simpa using h) (.inl rfl)
  simpa [run] using this

theorem mtc_sound (m n : Int) : ∀ (l : List S60) (ki : Nat) (out o : List Int) (ym : Int), 0 ≤ ym → ym ≤ n → (out.length : Int) ≤ m → mtc m n ki l out ym = some o →
    ∃ s, o = out ++ s ∧ (out.length : Int) + s.length = m ∧ MayF n ym s ∧ chg n out.length out.length ym s = l ∧ (0 < ki → (s = [] ∧ ym = n) ∨ ∃ s', s = ym :: s') := by
  intro l
  induction l with
  | nil =>
    intro ki out o ym h0 h1 hm h
    rw [mtc] at h
    split at h
    · rename_i hk
      obtain ⟨k1, k2, k3, k4⟩ := hk
      obtain rfl := Option.some.inj h
      refine ⟨_, rfl, by rw [run_len]; omega, ?_, ?_, fun _ => ?_⟩
      · have := mayF_run (n := n) (m.toNat - out.length) ym [] h0 (by show _ ≤ n; omega)
        simpa using this
      · have := chg_run n (m.toNat - out.length) (out.length : Int) ym [] h0
        rw [List.append_nil] at this
        rw [this, chg, if_neg (by omega)]
      · by_cases e : m.toNat - out.length = 0
        · rw [e]; exact .inl ⟨rfl, by omega⟩
        · obtain ⟨d, hd⟩ : ∃ d, m.toNat - out.length = d + 1 := ⟨m.toNat - out.length - 1, by omega⟩
          rw [hd]; exact .inr ⟨_, rfl⟩
    · cases h
  | cons c t ih =>
    intro ki out o ym h0 h1 hm h
    obtain ⟨⟨x, i⟩, ⟨y, j⟩⟩ := c
    rw [mtc] at h
    split at h
    · rename_i hk
      obtain ⟨⟨k1, k2, k3, k4⟩, k5, k6, k7, k8, k9, k10⟩ := hk
      simp only at k1 k2 k3 k4 k5 k6 k7 k8 k9 k10 h
      obtain ⟨s, rfl, hs2, hs3, hs4, hs5⟩ := ih _ _ _ _ (by omega) (by omega) (by simp [run_len]; omega) h
      have e3 : ((out ++ run (x.toNat - out.length) ym ++ List.replicate (i.toNat - x.toNat) (-1)).length : Int) = i := by simp [run_len]; omega
      rw [e3] at hs2 hs4
      have e1 : ((x.toNat - out.length : Nat) : Int) = x - out.length := by omega
      have e2 : ((i.toNat - x.toNat : Nat) : Int) = i - x := by omega
      refine ⟨run (x.toNat - out.length) ym ++ (List.replicate (i.toNat - x.toNat) (-1) ++ s), by simp, ?_, ?_, ?_, fun hki => ?_⟩
      · simp [run_len]; omega
      · refine mayF_run _ _ _ h0 ?_
        refine mayF_reps _ _ j _ (by omega) hs3
      · rw [chg_run _ _ _ _ _ h0, chg_reps, e1, e2]
        rw [show (out.length : Int) + (x - out.length) = x from by omega, show x + (i - x) = i from by omega, show ym + (x - out.length) = y from by omega]
        rcases hs5 (by omega) with ⟨rfl, rfl⟩ | ⟨s', rfl⟩
        · rw [chg, if_neg (by omega)] at hs4
          rw [chg, if_pos (by omega), ← hs4]
        · rw [chg, if_neg (by omega), if_neg (by omega)] at hs4
          rw [chg, if_neg (by omega), if_pos (by omega), hs4]
      · obtain ⟨d, hd⟩ : ∃ d, x.toNat - out.length = d + 1 := ⟨x.toNat - out.length - 1, by omega⟩
        rw [hd]; exact .inr ⟨_, rfl⟩
    · cases h

/-! The reference's guess -/
def oldB (l : List S60) (i : Int) : Bool := l.any fun c => decide (c.f0.f0 ≤ i) && decide (i < c.f0.f1)
def newB (l : List S60) (j : Int) : Bool := l.any fun c => decide (c.f1.f0 ≤ j) && decide (j < c.f1.f1)
/-- The first new place from j on that lies in no change, or n: with d rounds. -/
def skp (l : List S60) (n : Int) : Nat → Int → Int
  | 0, j => j
  | d + 1, j => if j < n then (if newB l j = true then skp l n d (j + 1) else j) else j
def gss (l : List S60) (n : Int) : Nat → Int → Int → List Int
  | 0, _, _ => []
  | c + 1, i, j => if oldB l i = true ∨ skp l n (n - j).toNat j ≥ n then -1 :: gss l n c (i + 1) (skp l n (n - j).toNat j) else skp l n (n - j).toNat j :: gss l n c (i + 1) (skp l n (n - j).toNat j + 1)
theorem skp_spec (l : List S60) (n : Int) : ∀ (d : Nat) (j : Int), d = (n - j).toNat → j ≤ skp l n d j ∧ (skp l n d j ≤ n ∨ skp l n d j = j) ∧ (∀ q, j ≤ q → q < skp l n d j → newB l q = true) ∧ (skp l n d j < n → newB l (skp l n d j) = false) := by
  intro d
  induction d with
  | zero => intro j hd; exact ⟨Int.le_refl _, .inr rfl, fun q (h1 : j ≤ q) (h2 : q < j) => by omega, fun (h : j < n) => by omega⟩
  | succ d ih =>
    intro j hd
    rw [skp, if_pos (by omega)]
    cases hn : newB l j with
    | true =>
      rw [if_pos rfl]
      obtain ⟨a, b, c, e⟩ := ih (j + 1) (by omega)
      refine ⟨by omega, by omega, fun q h1 h2 => ?_, e⟩
      by_cases hq : q = j
      · rw [hq]; exact hn
      · exact c q (by omega) h2
    | false =>
      rw [if_neg (by decide)]
      exact ⟨Int.le_refl _, .inr rfl, fun q _ _ => by omega, fun _ => hn⟩
theorem gss_len (l : List S60) (n : Int) (c : Nat) : ∀ i j, (gss l n c i j).length = c := by
  induction c with
  | zero => intro i j; rfl
  | succ c ih =>
    intro i j
    rw [gss]
    split <;> simp [ih]
theorem gss_may (l : List S60) (n : Int) (c : Nat) : ∀ i j, 0 ≤ j → j ≤ n → MayF n j (gss l n c i j) := by
  induction c with
  | zero => intro i j h0 h; exact h
  | succ c ih =>
    intro i j h0 h
    obtain ⟨a, b, _, _⟩ := skp_spec l n (n - j).toNat j rfl
    rw [gss]
    split
    · have := mayF_reps (n := n) 0 j _ _ a (ih (i + 1) (skp l n (n - j).toNat j) (by omega) (by omega))
      exact .inl ⟨rfl, by simpa using this⟩
    · exact .inr ⟨a, by omega, ih _ _ (by omega) (by omega)⟩
theorem old_chg (n : Int) : ∀ (t : List Int) (i x y : Int), x ≤ i → ∀ p : Int, oldB (chg n i x y t) p = true ↔ (x ≤ p ∧ p < i) ∨ (i ≤ p ∧ ∃ v, t[(p - i).toNat]? = some v ∧ v < 0) := by
  intro t
  induction t with
  | nil =>
    intro i x y hx p
    rw [chg]
    split
    · simp [oldB]
    · simp [oldB]; omega
  | cons j t ih =>
    intro i x y hx p
    have sh : ∀ q : Int, i + 1 ≤ q → (j :: t)[(q - i).toNat]? = t[(q - (i + 1)).toNat]? := fun q hq => by
      have : (q - i).toNat = (q - (i + 1)).toNat + 1 := by omega
      rw [this, List.getElem?_cons_succ]
    rw [chg]
    by_cases hj : j < 0
    · rw [if_pos hj, ih (i + 1) x y (by omega) p]
      by_cases hp : p = i
      · subst hp
        constructor
        · intro _; exact .inr ⟨Int.le_refl _, j, by simp, hj⟩
        · intro _; exact .inl ⟨hx, by omega⟩
      · by_cases h2 : i + 1 ≤ p
        · rw [sh p h2]
          constructor
          · rintro (⟨_, _⟩ | ⟨_, h⟩)
            · omega
            · exact .inr ⟨by omega, h⟩
          · rintro (⟨_, _⟩ | ⟨_, h⟩)
            · omega
            · exact .inr ⟨by omega, h⟩
        · constructor
          · rintro (⟨_, _⟩ | ⟨_, h⟩)
            · exact .inl ⟨by omega, by omega⟩
            · omega
          · rintro (⟨_, _⟩ | ⟨_, h⟩)
            · exact .inl ⟨by omega, by omega⟩
            · omega
    · rw [if_neg hj]
      have key : oldB (chg n (i + 1) (i + 1) (j + 1) t) p = true ↔ (i + 1 ≤ p ∧ ∃ v, (j :: t)[(p - i).toNat]? = some v ∧ v < 0) := by
        rw [ih (i + 1) (i + 1) (j + 1) (Int.le_refl _) p]
        constructor
        · rintro (⟨_, _⟩ | ⟨h1, h⟩)
          · omega
          · exact ⟨h1, by rw [sh p h1]; exact h⟩
        · rintro ⟨h1, h⟩
          exact .inr ⟨h1, by rw [← sh p h1]; exact h⟩
      have key2 : (i ≤ p ∧ ∃ v, (j :: t)[(p - i).toNat]? = some v ∧ v < 0) ↔ (i + 1 ≤ p ∧ ∃ v, (j :: t)[(p - i).toNat]? = some v ∧ v < 0) := by
        constructor
        · rintro ⟨h1, v, h2, h3⟩
          refine ⟨?_, v, h2, h3⟩
          by_cases hp : p = i
          · subst hp; simp at h2; omega
          · omega
        · rintro ⟨h1, h⟩; exact ⟨by omega, h⟩
      rw [key2, ← key]
      split
      · simp [oldB]
      · rename_i hc
        constructor
        · intro h; exact .inr h
        · rintro (h | h)
          · omega
          · exact h
theorem new_chg (n : Int) : ∀ (t : List Int) (i x y : Int), x ≤ i → 0 ≤ y → MayF n y t → ∀ q : Int, newB (chg n i x y t) q = true ↔ y ≤ q ∧ q < n ∧ q ∉ t := by
  intro t
  induction t with
  | nil =>
    intro i x y hx hy hM q
    rw [chg]
    split
    · simp [newB]
    · simp [newB]; omega
  | cons j t ih =>
    intro i x y hx hy hM q
    rw [chg]
    rcases hM with ⟨rfl, hM⟩ | ⟨h1, h2, hM⟩
    · rw [if_pos (by omega), ih (i + 1) x y (by omega) hy hM q]
      simp only [List.mem_cons, not_or]
      constructor
      · rintro ⟨a, b, c⟩; exact ⟨a, b, by omega, c⟩
      · rintro ⟨a, b, _, c⟩; exact ⟨a, b, c⟩
    · rw [if_neg (by omega)]
      have key := ih (i + 1) (i + 1) (j + 1) (Int.le_refl _) (by omega) hM q
      have hmem := mayF_mem t (j + 1) hM
      have tail : (y ≤ q ∧ q < n ∧ q ∉ j :: t) ↔ ((y ≤ q ∧ q < j) ∨ newB (chg n (i + 1) (i + 1) (j + 1) t) q = true) := by
        rw [key]
        simp only [List.mem_cons, not_or]
        constructor
        · rintro ⟨a, b, c, d⟩
          by_cases hq : q < j
          · exact .inl ⟨a, hq⟩
          · exact .inr ⟨by omega, b, d⟩
        · rintro (⟨a, b⟩ | ⟨a, b, c⟩)
          · exact ⟨a, by omega, by omega, fun hq => by rcases hmem q hq with e | e <;> omega⟩
          · exact ⟨by omega, b, by omega, c⟩
      rw [tail]
      split
      · simp [newB]
      · rename_i hc
        constructor
        · intro h; exact .inr h
        · rintro (h | h)
          · omega
          · exact h
/-- The guess of a match's changes is that match. -/
theorem gss_back (n : Int) (o : List Int) (hM : MayF n 0 o) : gss (chg n 0 0 0 o) n o.length 0 0 = o := by
  have hn := new_chg n o 0 0 0 (Int.le_refl _) (Int.le_refl _) hM
  have main : ∀ (t p : List Int) (y j : Int), o = p ++ t → 0 ≤ y → y ≤ j → j ≤ n → MayF n y t → (∀ q ∈ p, q < y) → (∀ q ∈ t, q < 0 ∨ j ≤ q) → gss (chg n 0 0 0 o) n t.length p.length j = t := by
    intro t
    induction t with
    | nil => intro p y j ho h0 hyj hjn ht hp hq; rfl
    | cons v t ih =>
      intro p y j ho h0 hyj hjn ht hp hq
      obtain ⟨a, b, c, e⟩ := skp_spec (chg n 0 0 0 o) n (n - j).toNat j rfl
      have hget : o[p.length]? = some v := by rw [ho]; simp
      have hold : oldB (chg n 0 0 0 o) p.length = true ↔ v < 0 := by
        rw [old_chg n o 0 0 0 (Int.le_refl _) p.length]
        constructor
        · rintro (h | ⟨_, v', h1, h2⟩)
          · omega
          · rw [show ((p.length : Int) - 0).toNat = p.length from by omega, hget] at h1
            cases h1; exact h2
        · intro h
          exact .inr ⟨by omega, v, by rw [show ((p.length : Int) - 0).toNat = p.length from by omega]; exact hget, h⟩
      rw [List.length_cons, gss]
      rcases ht with ⟨rfl, ht⟩ | ⟨h1, h2, ht⟩
      · rw [if_pos (.inl (hold.2 (by omega)))]
        congr 1
        have := ih (p ++ [-1]) y (skp (chg n 0 0 0 o) n (n - j).toNat j) (by rw [ho]; simp) h0 (by omega) (by omega) ht
          (fun q hq' => by
            rcases List.mem_append.1 hq' with h | h
            · exact hp q h
            · rw [List.mem_singleton.1 h]; omega)
          (fun q hq' => by
            rcases hq q (List.mem_cons_of_mem _ hq') with h | h
            · exact .inl h
            · by_cases hs : skp (chg n 0 0 0 o) n (n - j).toNat j ≤ q
              · exact .inr hs
              · exact absurd (by rw [ho]; simp [hq']) ((hn q).1 (c q h (by omega))).2.2)
        simpa using this
      · have hv : j ≤ v := by
          rcases hq v (List.mem_cons_self ..) with h | h
          · omega
          · exact h
        have hs : skp (chg n 0 0 0 o) n (n - j).toNat j = v := by
          by_cases h3 : v < skp (chg n 0 0 0 o) n (n - j).toNat j
          · exact absurd (by rw [ho]; simp) ((hn v).1 (c v hv h3)).2.2
          · by_cases h4 : skp (chg n 0 0 0 o) n (n - j).toNat j < v
            · have h5 := e (by omega)
              have hmo : ∀ q, q ∈ o → q ∈ p ++ v :: t := fun q h => by rw [ho] at h; exact h
              have h6 := (hn (skp (chg n 0 0 0 o) n (n - j).toNat j)).2 ⟨by omega, by omega, fun hm => by
                replace hm := hmo _ hm
                rcases List.mem_append.1 hm with h | h
                · have := hp _ h; omega
                · rcases List.mem_cons.1 h with h | h
                  · omega
                  · rcases mayF_mem t (v + 1) ht _ h with h | h <;> omega⟩
              rw [h5] at h6; cases h6
            · omega
        rw [hs, if_neg (fun h => by
          rcases h with h | h
          · have := hold.1 h; omega
          · omega)]
        congr 1
        have := ih (p ++ [v]) (v + 1) (v + 1) (by rw [ho]; simp) (by omega) (Int.le_refl _) (by omega) ht
          (fun q hq' => by
            rcases List.mem_append.1 hq' with h | h
            · have := hp q h; omega
            · rw [List.mem_singleton.1 h]; omega)
          (fun q hq' => by
            rcases mayF_mem t (v + 1) ht q hq' with h | h
            · exact .inl (by omega)
            · exact .inr h.1)
        simpa using this
  have := main o [] 0 0 rfl (Int.le_refl _) (Int.le_refl _) (mayF_le _ _ hM) hM (by simp) (fun q hq => by rcases mayF_mem o 0 hM q hq with h | h <;> omega)
  simpa using this
/-! The match the other way -/
def inv (n : Int) : Int → Int → List Int → List Int
  | i, y, [] => List.replicate (n - y).toNat (-1)
  | i, y, j :: t => if j < 0 then inv n (i + 1) y t else List.replicate (j - y).toNat (-1) ++ i :: inv n (i + 1) (j + 1) t
def swp (c : S60) : S60 := ⟨c.f1, c.f0⟩
theorem inv_len (n : Int) : ∀ (t : List Int) (i y : Int), 0 ≤ y → MayF n y t → (inv n i y t).length = (n - y).toNat := by
  intro t
  induction t with
  | nil => intro i y hy h; simp [inv]
  | cons j t ih =>
    intro i y hy h
    rw [inv]
    rcases h with ⟨rfl, h⟩ | ⟨h1, h2, h⟩
    · rw [if_pos (by omega)]; exact ih _ _ hy h
    · rw [if_neg (by omega)]; simp [ih _ _ (show 0 ≤ j + 1 by omega) h]; omega
theorem inv_may (n m : Int) : ∀ (t : List Int) (i y x : Int), 0 ≤ x → x ≤ i → i + t.length = m → MayF m x (inv n i y t) := by
  intro t
  induction t with
  | nil =>
    intro i y x h0 hx hm
    simp only [List.length_nil] at hm
    have := mayF_reps (n := m) (n - y).toNat x m [] (by omega) (Int.le_refl _)
    simpa [inv] using this
  | cons j t ih =>
    intro i y x h0 hx hm
    rw [List.length_cons] at hm
    rw [inv]
    split
    · exact ih _ _ _ h0 (by omega) (by omega)
    · refine mayF_reps _ _ x _ (Int.le_refl _) (.inr ⟨hx, by omega, ih _ _ _ (by omega) (Int.le_refl _) (by omega)⟩)
theorem chg_inv (n m : Int) : ∀ (t : List Int) (i x y : Int), 0 ≤ x → x ≤ i → 0 ≤ y → MayF n y t → i + t.length = m → chg m y y x (inv n i y t) = (chg n i x y t).map swp := by
  intro t
  induction t with
  | nil =>
    intro i x y hx hxi hy h hm
    have hyn : y ≤ n := h
    simp only [List.length_nil] at hm
    have := chg_reps m (n - y).toNat y y x []
    rw [List.append_nil] at this
    rw [inv, this, chg, chg, show y + ((n - y).toNat : Int) = n from by omega, show i = m from by omega]
    by_cases hc : y < n ∨ x < m
    · rw [if_pos hc, if_pos (by omega)]; rfl
    · rw [if_neg hc, if_neg (by omega)]; rfl
  | cons j t ih =>
    intro i x y hx hxi hy h hm
    rw [List.length_cons] at hm
    rw [inv, chg]
    rcases h with ⟨rfl, h⟩ | ⟨h1, h2, h⟩
    · rw [if_pos (by omega), if_pos (by omega)]; exact ih _ _ _ hx (by omega) hy h (by omega)
    · rw [if_neg (by omega), if_neg (by omega), chg_reps, show y + ((j - y).toNat : Int) = j from by omega, chg, if_neg (by omega), ih (i + 1) (i + 1) (j + 1) (by omega) (Int.le_refl _) (by omega) h (by omega)]
      by_cases hc : y < j ∨ x < i
      · rw [if_pos hc, if_pos (by omega)]; rfl
      · rw [if_neg hc, if_neg (by omega)]

/-! Counts -/
def oldS : List S60 → Int
  | [] => 0
  | c :: t => c.f0.f1 - c.f0.f0 + oldS t
def newS : List S60 → Int
  | [] => 0
  | c :: t => c.f1.f1 - c.f1.f0 + newS t
def cnt : List Int → Int
  | [] => 0
  | j :: t => (if j ≥ 0 then 1 else 0) + cnt t
theorem oldS_chg (n : Int) : ∀ (t : List Int) (i x y : Int), x ≤ i → MayF n y t → oldS (chg n i x y t) = i - x + t.length - cnt t := by
  intro t
  induction t with
  | nil =>
    intro i x y hx h
    rw [chg]
    split
    · simp [oldS, cnt]
    · simp [oldS, cnt]; omega
  | cons j t ih =>
    intro i x y hx h
    rw [chg, List.length_cons, cnt]
    rcases h with ⟨rfl, h⟩ | ⟨h1, h2, h⟩
    · rw [if_pos (by omega), ih _ _ _ (by omega) h]; simp; omega
    · by_cases hj : j < 0
      · rw [if_pos hj, if_neg (by omega)]
        have : MayF n y t := by
          have low := mayF_reps (n := n) 0 y (j + 1) t (by omega) h
          simpa using low
        rw [ih _ _ _ (by omega) this]; omega
      · have hj2 : j ≥ 0 := by omega
        rw [if_neg hj, if_pos hj2]
        split
        · rw [oldS, ih _ _ _ (Int.le_refl _) h]; simp only; omega
        · rw [ih _ _ _ (Int.le_refl _) h]; omega
theorem newS_chg (n : Int) : ∀ (t : List Int) (i x y : Int), 0 ≤ y → MayF n y t → x ≤ i → newS (chg n i x y t) = n - y - cnt t := by
  intro t
  induction t with
  | nil =>
    intro i x y hy h hx
    have : y ≤ n := h
    rw [chg]
    split
    · simp [newS, cnt]
    · simp [newS, cnt]; omega
  | cons j t ih =>
    intro i x y hy h hx
    rw [chg, cnt]
    rcases h with ⟨rfl, h⟩ | ⟨h1, h2, h⟩
    · rw [if_pos (by omega), ih _ _ _ hy h (by omega)]; simp
    · have hj2 : j ≥ 0 := by omega
      rw [if_neg (by omega), if_pos hj2]
      split
      · rw [newS, ih _ _ _ (by omega) h (Int.le_refl _)]; simp only; omega
      · rw [ih _ _ _ (by omega) h (Int.le_refl _)]; omega
/-- Between two changes something is paired, and all lie in bounds. -/
def Far (m n : Int) : Int → Int → List S60 → Prop
  | _, _, [] => True
  | a, b, c :: t => a < c.f0.f0 ∧ b < c.f1.f0 ∧ c.f0.f0 ≤ c.f0.f1 ∧ c.f0.f1 ≤ m ∧ c.f1.f0 ≤ c.f1.f1 ∧ c.f1.f1 ≤ n ∧ Far m n c.f0.f1 c.f1.f1 t
theorem far_chg (n m : Int) : ∀ (t : List Int) (i x y a b : Int), x ≤ i → i + t.length = m → 0 ≤ y → MayF n y t → a < x → b < y → Far m n a b (chg n i x y t) := by
  intro t
  induction t with
  | nil =>
    intro i x y a b hx hm hy h ha hb
    have : y ≤ n := h
    simp only [List.length_nil] at hm
    rw [chg]
    split
    · exact ⟨ha, hb, hx, by show i ≤ m; omega, this, Int.le_refl _, trivial⟩
    · trivial
  | cons j t ih =>
    intro i x y a b hx hm hy h ha hb
    rw [List.length_cons] at hm
    rw [chg]
    rcases h with ⟨rfl, h⟩ | ⟨h1, h2, h⟩
    · rw [if_pos (by omega)]; exact ih _ _ _ _ _ (by omega) (by omega) hy h ha hb
    · rw [if_neg (by omega)]
      split
      · exact ⟨ha, hb, hx, by show i ≤ m; omega, h1, by show j ≤ n; omega, ih _ _ _ _ _ (Int.le_refl _) (by omega) (by omega) h (by show i < i + 1; omega) (by show j < j + 1; omega)⟩
      · exact ih _ _ _ _ _ (Int.le_refl _) (by omega) (by omega) h (by omega) (by omega)
theorem chg_len (n : Int) : ∀ (t : List Int) (i x y : Int), (chg n i x y t).length ≤ t.length + 1 := by
  intro t
  induction t with
  | nil => intro i x y; rw [chg]; split <;> simp
  | cons j t ih =>
    intro i x y
    rw [chg]
    have h1 := ih (i + 1) x y
    have h2 := ih (i + 1) (i + 1) (j + 1)
    split
    · simp; omega
    · split <;> simp <;> omega
end Go.Proofs.Ytnebadlakmlkkaa.Pure
