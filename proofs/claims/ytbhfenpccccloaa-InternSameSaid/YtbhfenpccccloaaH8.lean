/- intern.Table: the table's state, and what New, Id, Text, Len do with it. -/
import Derived.Maps.OwnSet
import Derived.Maps.OwnOps
import Derived.Carry
import Derived.RangeFuncBox
import Derived.Test.YtbhfenpccccloaaH3
namespace Go.Proofs.Ytbhfenpccccloaa.M
open Go.RowKit Go.Proofs Go.Proofs.Ytbhfenpccccloaa.Hand Go.Proofs.YtbhfenpccccloaaW.PrintWords Go.Proofs.YtbhfenpccccloaaW.PrintLast Go.Proofs.YtbhfenpccccloaaW.PrintMore
open Go.Maps (Keyed string_keyed atKey_put_same atKey_put_other has_put_same has_put_other)
attribute [local go_sem] Oper.semAt_some
set_option linter.unusedVariables false
set_option linter.unusedSimpArgs false

/-! The atomic counter -/
theorem upd_eq (p y : Value) : Extern.Atomic.update (Op.intArith .add) .i64 true #[p, y] = (do
    let a ← asAddr p
    let old ← Extern.Atomic.read (.int .i64) a
    let new ← (Op.intArith .add) .i64 (← asInt old) (← asInt y)
    store a new .atomic
    pure (if true then new else old)) := rfl
theorem load_eq (p : Value) : Extern.Atomic.loadT (.int .i64) #[p] = (do Extern.Atomic.read (.int .i64) (← asAddr p)) := rfl
theorem load64 (w : World) (a : Addr) (x : Int) (hc : w.cell? a = some (.int .i64 x)) : (callFunc 64 #[.pointer (some a)]).run Try.prog w = .ok (.value (.int .i64 x)) w := by
  have he : Extern.find Try.f64 = some (Extern.Atomic.loadT (.int .i64)) := by kernel_rfl
  rw [run_callFunc_extern Try.func64 (by kernel_rfl) (by kernel_rfl) (by kernel_rfl) he, load_eq]
  simp [Extern.Atomic.read, asAddr, go_sem, hc]
theorem add64 (w : World) (a : Addr) (x : Int) (hc : w.cell? a = some (.int .i64 x)) (hf : w.frozen? a = false) : (callFunc 63 #[.pointer (some a), .int .i64 1]).run Try.prog w = .ok (.value (.int .i64 (wrap64 (x + 1)))) (w.setCell a (.int .i64 (wrap64 (x + 1)))) := by
  have he : Extern.find Try.f63 = some (Extern.Atomic.update (Op.intArith .add) .i64 true) := by kernel_rfl
  rw [run_callFunc_extern Try.func63 (by kernel_rfl) (by kernel_rfl) (by kernel_rfl) he, upd_eq]
  simp [Extern.Atomic.read, Op.intArith, asAddr, asInt, go_sem, hc, hf, i64_w]

/-! The numbers -/
def ixG : List ByteArray → ByteArray → Nat
  | [], _ => 0
  | x :: t, s => if x = s then 0 else ixG t s + 1
instance decMemB (s : ByteArray) : (xs : List ByteArray) → Decidable (s ∈ xs)
  | [] => isFalse (by simp)
  | x :: t => if h : s = x then isTrue (by rw [h]; exact List.mem_cons_self ..) else match decMemB s t with
    | isTrue h2 => isTrue (List.mem_cons_of_mem _ h2)
    | isFalse h2 => isFalse (fun h3 => by rcases List.mem_cons.1 h3 with h3 | h3; exact h h3; exact h2 h3)
def addG (xs : List ByteArray) (s : ByteArray) : List ByteArray := if s ∈ xs then xs else xs ++ [s]
theorem ixG_mem (xs ys : List ByteArray) (s : ByteArray) (h : s ∈ xs) : ixG (xs ++ ys) s = ixG xs s := by
  induction xs with
  | nil => cases h
  | cons x t ih =>
    simp only [List.cons_append, ixG]
    by_cases e : x = s
    · rw [if_pos e, if_pos e]
    · rw [if_neg e, if_neg e, ih (by rcases List.mem_cons.1 h with h | h; exact absurd h.symm e; exact h)]
theorem ixG_not (xs ys : List ByteArray) (s : ByteArray) (h : s ∉ xs) : ixG (xs ++ ys) s = xs.length + ixG ys s := by
  induction xs with
  | nil => simp
  | cons x t ih =>
    simp only [List.cons_append, ixG, List.length_cons]
    rw [List.mem_cons, not_or] at h
    rw [if_neg (fun e => h.1 e.symm), ih h.2]; omega
theorem ixG_le (xs : List ByteArray) (s : ByteArray) : ixG xs s ≤ xs.length := by
  induction xs with
  | nil => simp [ixG]
  | cons x t ih => simp only [ixG, List.length_cons]; split <;> omega
theorem ixG_len (xs : List ByteArray) (s : ByteArray) (h : s ∉ xs) : ixG xs s = xs.length := by
  have := ixG_not xs [] s h
  simpa [ixG] using this
abbrev keyS (s : ByteArray) : Lit := .string s.data.toList
theorem keyS_ne {s t : ByteArray} (h : s ≠ t) : keyS s ≠ keyS t := fun e => h (by
  simp only [keyS, Lit.string.injEq] at e
  cases s; cases t
  simpa [Array.toList_inj] using e)
def IdxD (D : DataW Unit) (xs : List ByteArray) : Prop := ∀ s : ByteArray, Go.Maps.has D (keyS s) = decide (s ∈ xs) ∧ (s ∈ xs → D.atKey (keyS s) (.lit (.int .i64 0)) = .lit (.int .i64 (ixG xs s)))
theorem idxD_nil : IdxD (.map []) [] := fun s => ⟨by simp [Go.Maps.has], fun h => by cases h⟩
theorem idxD_put {D : DataW Unit} {xs : List ByteArray} (hm : Go.Maps.IsMap D) (h : IdxD D xs) (s : ByteArray) (hs : s ∉ xs) : IdxD (D.put (keyS s) (.lit (.int .i64 (xs.length : Int)))) (xs ++ [s]) := by
  intro t
  have hk : WideAt.IsKeyLit (keyS s) := by first | exact trivial | exact .inr (.inr ⟨_, rfl⟩) | simp [WideAt.IsKeyLit]
  by_cases e : t = s
  · subst e
    refine ⟨by rw [has_put_same hm hk]; simp, fun _ => ?_⟩
    rw [atKey_put_same hm hk, ixG_not xs [t] t hs]
    simp [ixG]
  · obtain ⟨h1, h2⟩ := h t
    refine ⟨by rw [has_put_other (keyS_ne e), h1]; simp [e], fun hm => ?_⟩
    have hx : t ∈ xs := by rcases List.mem_append.1 hm with h | h; exact h; exact absurd (List.mem_singleton.1 h) e
    rw [atKey_put_other (keyS_ne e), h2 hx, ixG_mem xs [s] t hx]

/-! The table: B its struct, Bm its map, v its texts. -/
theorem law9 : Keyed Try.prog 9 := string_keyed Try.underlying9
theorem zero3 (w : World) : (zeroValue 3).run Try.prog w = .ok (.int .i64 0) w := by kernel_rfl
def TabW (W : World) (n₀ B Bm : Nat) (v : Value) (xs : List ByteArray) : Prop :=
  W.heap[B]? = some (.cells #[.map (some Bm), v, .int .i64 (xs.length : Int)] 66 (0, 0)) ∧ Kd.R Kd.string 9 W n₀ (fun _ => True) v xs ∧ (∃ D, W.ownsMap Try.prog 9 (plainElem Try.prog 3) Bm xs.length D ∧ IdxD D xs) ∧ n₀ ≤ B ∧ n₀ ≤ Bm
/-- What the table's calls leave as it was. -/
def KeepT (W W' : World) (B Bm : Nat) (v : Value) : Prop := ∀ k, k < W.heap.size → k ≠ B → k ≠ Bm → some k ≠ v.ownBlock → W'.heap[k]? = W.heap[k]?

set_option maxHeartbeats 4000000 in
set_option maxRecDepth 100000 in
theorem new_c (w : World) : Calls Try.prog 29 #[] w fun e w' => e = .returned (.pointer (some ⟨w.heap.size + 1, 0, none⟩)) ∧ TabW w' w.heap.size (w.heap.size + 1) w.heap.size (.slice none 0 0) [] ∧ Below w.heap.size w w' := by
  have hmm := @run_makeMap Try.prog
  go_enter Try.func29, Try.ntmps29
  go_wp2
  go_ret
  have h1 := World.ownsMap_made w Try.prog 9 (plainElem (H := Unit) Try.prog 3)
  refine ⟨rfl, ⟨?_, Kd.R_nil _ _ _ _ _, ⟨_, h1.alloc _, idxD_nil⟩, by omega, Nat.le_refl _⟩, below_alloc (below_alloc (Below.refl _ _) _) _⟩
  have := Go.heap_alloc_new (w.alloc (.map #[] 0)) (.cells #[.map (some w.heap.size), .slice none 0 0, .int .i64 0] 66)
  rw [World.size_alloc] at this
  exact this
end Go.Proofs.Ytbhfenpccccloaa.M
