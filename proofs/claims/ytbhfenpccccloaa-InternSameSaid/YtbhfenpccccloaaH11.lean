/- The rows that intern.All makes: a list of lists of numbers, each of its own. -/
import Derived.Test.YtbhfenpccccloaaH10
namespace Go.Proofs.Ytbhfenpccccloaa.M
open Go.RowKit Go.Proofs Go.Proofs.Ytbhfenpccccloaa.Hand Go.Proofs.YtbhfenpccccloaaW.PrintWords Go.Proofs.YtbhfenpccccloaaW.PrintLast Go.Proofs.YtbhfenpccccloaaW.PrintMore
attribute [local go_sem] Oper.semAt_some
set_option linter.unusedVariables false
set_option linter.unusedSimpArgs false

abbrev RowI (W : World) (n₀ : Nat) (v : Value) (xs : List Int) : Prop := Kd.R (Kd.int .i64) 3 W n₀ (fun _ => True) v xs
/-- Block G is the rows' list; the rows' blocks are apart. -/
def Rows (W : World) (n₀ G : Nat) (cs : Array Value) (rows : List (List Int)) : Prop :=
  W.heap[G]? = some (.cells cs 44 (0, 0)) ∧ cs.size = rows.length ∧ n₀ ≤ G ∧ (∀ (k : Nat) (v : Value) (r : List Int), cs[k]? = some v → rows[k]? = some r → RowI W n₀ v r) ∧ (∀ (k k' : Nat) (v v' : Value) (g : Nat), k ≠ k' → cs[k]? = some v → cs[k']? = some v' → v.ownBlock = some g → v'.ownBlock ≠ some g)
theorem rowI_step {W W' : World} {n₀ : Nat} {v : Value} {xs : List Int} (h : RowI W n₀ v xs) (hk : ∀ k, v.ownBlock = some k → W'.heap[k]? = W.heap[k]?) : RowI W' n₀ v xs :=
  Kd.R_mono (Kd.R_step (Kd.R_tight rfl h) (fun k ho _ => hk k ho.symm)) (fun _ _ => trivial)
/-- Rows stay where their blocks stay. -/
theorem rows_step {W W' : World} {n₀ G : Nat} {cs : Array Value} {rows : List (List Int)} (h : Rows W n₀ G cs rows) (hk : ∀ (k : Nat) (cells : Array Value) (t : TypeId), W.heap[k]? = some (Obj.cells cells t (0, 0)) → t = 44 ∨ t = 3 → W'.heap[k]? = W.heap[k]?) : Rows W' n₀ G cs rows := by
  obtain ⟨h1, h2, h3, h4, h5⟩ := h
  refine ⟨(hk G _ _ h1 (.inl rfl)).trans h1, h2, h3, fun k v r hv hr => ?_, h5⟩
  have hR := h4 k v r hv hr
  refine rowI_step hR (fun g hg => ?_)
  obtain ⟨cells, hc⟩ := Kd.R_typed hR g hg
  exact hk g _ _ hc (.inr rfl)
/-- The table's calls leave the rows. -/
theorem rows_keep {W W' : World} {n₀ G B Bm : Nat} {v : Value} {xs : List ByteArray} {cs : Array Value} {rows : List (List Int)} (h : Rows W n₀ G cs rows) (ht : TabW W n₀ B Bm v xs) (hk : KeepT W W' B Bm v) : Rows W' n₀ G cs rows := by
  obtain ⟨hB, hR, ⟨D, hown, _⟩, _, _⟩ := ht
  refine rows_step h (fun k cells t hc hty => hk k (Array.getElem?_eq_some_iff.1 hc).1 ?_ ?_ ?_)
  · rintro rfl
    rw [hB] at hc
    cases hc
    rcases hty with h | h <;> cases h
  · exact fun e => map_ne hown hc e.symm
  · intro e
    obtain ⟨cells', hc'⟩ := Kd.R_typed hR k e.symm
    rw [hc] at hc'
    cases hc'
    rcases hty with h | h <;> cases h
/-- The rows, and the table, behind an append to row i and its store. -/
theorem rows_put {W w1 : World} {n₀ G i : Nat} {cs : Array Value} {rows : List (List Int)} {v v1 : Value} {r r1 : List Int} (h : Rows W n₀ G cs rows) (hv : cs[i]? = some v) (hr : rows[i]? = some r)
    (hR1 : RowI w1 n₀ v1 r1) (hg : W.grownBy w1 v.ownBlock) (hat : v1.ownBlock = v.ownBlock ∨ ∃ b, v1.ownBlock = some b ∧ W.heap.size ≤ b) :
    Rows (w1.setCell ⟨G, i, none⟩ v1) n₀ G (cs.setIfInBounds i v1) (rows.set i r1) := by
  obtain ⟨h1, h2, h3, h4, h5⟩ := h
  have hlt : i < cs.size := (Array.getElem?_eq_some_iff.1 hv).1
  have hGlt : G < W.heap.size := (Array.getElem?_eq_some_iff.1 h1).1
  have hRv := h4 i v r hv hr
  have hGv : some G ≠ v.ownBlock := Kd.R_ne hRv h1 (by decide)
  have hG1 : w1.heap[G]? = some (.cells cs 44 (0, 0)) := (hg.block G hGlt hGv).trans h1
  have hGlt1 : G < w1.heap.size := (Array.getElem?_eq_some_iff.1 hG1).1
  have hGv1 : some G ≠ v1.ownBlock := Kd.R_ne hR1 hG1 (by decide)
  have hGs : (w1.setCell ⟨G, i, none⟩ v1).heap[G]? = some (.cells (cs.setIfInBounds i v1) 44 (0, 0)) := by
    have hgg : w1.heap[G] = .cells cs 44 (0, 0) := by rw [Array.getElem?_eq_getElem hGlt1] at hG1; exact Option.some.inj hG1
    simp [World.setCell, hGlt1, Array.getElem?_modify, Array.getElem_modify, hG1, hgg]
  have old : ∀ k u g, k ≠ i → cs[k]? = some u → u.ownBlock = some g → v1.ownBlock ≠ some g ∧ v.ownBlock ≠ some g ∧ g ≠ G := by
    intro k u g hk hu hgu
    have hne := h5 k i u v g hk hu hv hgu
    have hklt : k < rows.length := by rw [← h2]; exact (Array.getElem?_eq_some_iff.1 hu).1
    have hRu := h4 k u rows[k] hu (List.getElem?_eq_getElem hklt)
    have hglt := Kd.R_lt hRu g hgu
    refine ⟨?_, hne, fun e => Kd.R_ne hRu h1 (by decide) (by rw [← e]; exact hgu.symm)⟩
    rcases hat with e | ⟨b, e, hb⟩
    · rw [e]; exact hne
    · rw [e]; intro e2; injection e2 with e2; omega
  refine ⟨hGs, by simp [h2], h3, fun k u r' hu hr' => ?_, fun k k' u u' g hkk hu hu' hgu => ?_⟩
  · by_cases hki : k = i
    · subst hki
      rw [Array.getElem?_setIfInBounds_self_of_lt hlt] at hu
      rw [List.getElem?_set_self (by rw [← h2]; exact hlt)] at hr'
      injection hu with hu; injection hr' with hr'
      subst hu; subst hr'
      exact rowI_step hR1 (fun g hgu => Below.heap_setCell w1 ⟨G, k, none⟩ v1 g (fun e => hGv1 (by rw [hgu]; exact congrArg some (show g = G from e).symm)))
    · rw [Array.getElem?_setIfInBounds_ne (Ne.symm hki)] at hu
      rw [List.getElem?_set_ne (Ne.symm hki)] at hr'
      have hRu := h4 k u r' hu hr'
      refine rowI_step hRu (fun g hgu => ?_)
      obtain ⟨_, o2, o3⟩ := old k u g hki hu hgu
      exact (Below.heap_setCell w1 ⟨G, i, none⟩ v1 g o3).trans (hg.block g (Kd.R_lt hRu g hgu) (fun e => o2 e.symm))
  · by_cases hki : k = i
    · subst hki
      rw [Array.getElem?_setIfInBounds_self_of_lt hlt] at hu
      rw [Array.getElem?_setIfInBounds_ne hkk] at hu'
      injection hu with hu; subst hu
      intro e
      exact (old k' u' g (Ne.symm hkk) hu' e).1 hgu
    · rw [Array.getElem?_setIfInBounds_ne (Ne.symm hki)] at hu
      by_cases hki' : k' = i
      · subst hki'
        rw [Array.getElem?_setIfInBounds_self_of_lt hlt] at hu'
        injection hu' with hu'; subst hu'
        exact (old k u g hki hu hgu).1
      · rw [Array.getElem?_setIfInBounds_ne (Ne.symm hki')] at hu'
        exact h5 k k' u u' g hkk hu hu' hgu
/-- Fresh rows: none has anything. -/
theorem rows_made {W : World} {n₀ G n : Nat} (h : W.heap[G]? = some (.cells (Array.replicate n (.slice none 0 0)) 44 (0, 0))) (hn : n₀ ≤ G) : Rows W n₀ G (Array.replicate n (.slice none 0 0)) (List.replicate n []) := by
  refine ⟨h, by simp, hn, fun k v r hv hr => ?_, fun k k' v v' g _ hv hv' hgu => ?_⟩
  · have e1 : v = .slice none 0 0 := by rw [Array.getElem?_replicate] at hv; split at hv; exact (Option.some.inj hv).symm; cases hv
    have e2 : r = [] := by rw [List.getElem?_replicate] at hr; split at hr; exact (Option.some.inj hr).symm; cases hr
    subst e1; subst e2
    exact Kd.R_nil _ _ _ _ _
  · have e1 : v = .slice none 0 0 := by rw [Array.getElem?_replicate] at hv; split at hv; exact (Option.some.inj hv).symm; cases hv
    subst e1
    simp [Value.ownBlock] at hgu
/-- The table stands behind an append to a row, and its store. -/
theorem tab_rows {W w1 : World} {n₀ B Bm G i : Nat} {v u u1 : Value} {xs : List ByteArray} {r : List Int} {cells : Array Value} (ht : TabW W n₀ B Bm v xs) (hu : RowI W n₀ u r) (hG : W.heap[G]? = some (.cells cells 44 (0, 0))) (hg : W.grownBy w1 u.ownBlock) :
    TabW (w1.setCell ⟨G, i, none⟩ u1) n₀ B Bm v xs := by
  obtain ⟨hB, hR, ⟨D, hown, hD⟩, hn1, hn2⟩ := ht
  have g1 : some B ≠ u.ownBlock := Kd.R_ne hu hB (by decide)
  have g2 : some Bm ≠ u.ownBlock := fun e => by obtain ⟨c, hc⟩ := Kd.R_typed hu Bm e.symm; exact map_ne hown hc rfl
  have g3 : u.ownBlock ≠ v.ownBlock ∨ u.ownBlock = none := by
    cases hb : u.ownBlock with
    | none => exact .inr rfl
    | some g =>
      obtain ⟨c, hc⟩ := Kd.R_typed hu g hb
      exact .inl (fun e => Kd.R_ne hR hc (by decide) e)
  have gB : B ≠ G := blk_ne hB hG (by decide)
  have gM : Bm ≠ G := map_ne hown hG
  have gV : some G ≠ v.ownBlock := Kd.R_ne hR hG (by decide)
  have hR1 : Kd.R Kd.string 9 w1 n₀ (fun _ => True) v xs := by
    rcases g3 with g3 | g3
    · exact Kd.R_grown1 hR rfl hg g3
    · rw [g3] at hg
      exact Kd.R_mono (Kd.R_step (Kd.R_tight rfl hR) (fun k _ hlt => hg.block k hlt (by simp))) (fun _ _ => trivial)
  have hBlt : B < W.heap.size := (Array.getElem?_eq_some_iff.1 hB).1
  have hown1 := hown.kept hg g2
  refine ⟨(Below.heap_setCell w1 ⟨G, i, none⟩ u1 B gB).trans ((hg.block B hBlt g1).trans hB), Kd.R_grown1 hR1 rfl (grown_set w1 ⟨G, i, none⟩ u1) gV, ⟨D, hown1.kept (grown_set w1 ⟨G, i, none⟩ u1) (by simpa using gM), hD⟩, hn1, hn2⟩
end Go.Proofs.Ytbhfenpccccloaa.M
