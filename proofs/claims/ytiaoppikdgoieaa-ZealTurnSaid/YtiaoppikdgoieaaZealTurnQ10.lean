/- Texts of the claim ZealTurn, put together (part 10): What a value of a parameter's type reads as, kind by kind: of a value that the form reads as data ('trod'), the print's own reading (Kd.K) follows. No condition. -/
import Derived.ArgAppend
import Derived.Below
import Derived.BigQuiet
import Derived.ChangeArms
import Derived.Deep.AppendLies
import Derived.Deep.CutBlock
import Derived.Deep.DeepCutAuto
import Derived.Deep.Draws
import Derived.Deep.LoopGhost
import Derived.Deep.OwnRows
import Derived.Deep.QuietTactic
import Derived.Deep.RegionHeld3
import Derived.Deep.Slices
import Derived.KernelRfl
import Derived.Laws.BitsLemmas
import Derived.Laws.BytesArg
import Derived.Laws.IdiomCopy
import Derived.Laws.MakeOwn
import Derived.Laws.OwnMore
import Derived.Laws.Rows
import Derived.Laws.Slices
import Derived.Lib.AppendStr
import Derived.Lib.ConvBytes
import Derived.Maps.AppendAt
import Derived.OpenShut
import Derived.OrdersHeld
import Derived.OwnWalk
import Derived.RowKit
import Derived.RowKit3
import Derived.Tactics
import Derived.WalkKit
import Derived.WideLaws
import Derived.Test.YtiaoppikdgoieaaZealTurnQ9
namespace Go.Proofs.Ytiaoppikdgoieaa.Opn
open Go.RowKit Go.Proofs.YtiaoppikdgoieaaW.PrintWords Go.Proofs.YtiaoppikdgoieaaW.PrintLast Go.Proofs.YtiaoppikdgoieaaW.PrintMore
set_option linter.unusedVariables false

/-- Cells that read as data of type t read as a value of the kind d, of which ok holds. -/
def Opn (P : Program) {α : Type} (d : Kd α) (t : TypeId) (ok : α → Prop) : Prop :=
  ∀ {H : Type} {enc : TypeId × Value → H} {w : World} {base : Nat} {spare : Nat → Bool} {held : Bool} {fuel : Nat} {cs : List Value} {x : DataW H × List MemPlace},
    DataW.trod enc P w base spare held fuel t cs = some x → ∃ a, d.K w a cs ∧ ok a

section
variable {P : Program}
theorem opn_int {t : TypeId} (k : IntKind) (ht : P.underlying t = some (.int k)) : Opn P (Kd.int k) t (fun n => (Lit.int k n).wf = true) := by
  intro H enc w base spare held fuel cs x h
  obtain ⟨n, rfl, _, hw⟩ := DataW.trod_int ht h
  exact ⟨n, rfl, hw⟩
theorem opn_bool {t : TypeId} (ht : P.underlying t = some .bool) : Opn P Kd.bool t (fun _ => True) := by
  intro H enc w base spare held fuel cs x h
  obtain ⟨n, rfl, _⟩ := DataW.trod_bool ht h
  exact ⟨n, rfl, trivial⟩
theorem opn_string {t : TypeId} (ht : P.underlying t = some .string) : Opn P Kd.string t (fun s => s.size ≤ 9223372036854775807) := by
  intro H enc w base spare held fuel cs x h
  obtain ⟨n, rfl, _, hw⟩ := DataW.trod_string ht h
  exact ⟨n, rfl, hw⟩
/-- A struct's field: its cells among the struct's. -/
theorem opn_field {fs : Array Field} {t : TypeId} (ht : P.underlying t = some (.struct fs)) {H : Type} {enc : TypeId × Value → H} {w : World} {base : Nat} {spare : Nat → Bool} {held : Bool} {fuel : Nat} {cs : List Value} {x : DataW H × List MemPlace}
    (h : DataW.trod enc P w base spare held fuel t cs = some x) {α : Type} {d : Kd α} {ok : α → Prop} (i : Nat) (f : Field) (hf : fs[i]? = some f) (he : Opn P d f.type ok) :
    ∃ a, d.K w a ((cs.drop f.offset).take (P.cellsOf f.type)) ∧ ok a := by
  obtain ⟨xs, n, rfl, _, _, hlen, hm⟩ := DataW.trod_struct ht h
  have h1 := hm i f hf
  have hi : i < xs.length := by
    have := (Array.getElem?_eq_some_iff.1 hf).1
    omega
  rw [List.getElem?_eq_getElem hi] at h1
  exact he h1
theorem opn_slice {α : Type} {d : Kd α} {t e : TypeId} {ok : α → Prop} (ht : P.underlying t = some (.slice e)) (hc : P.cellsOf e = d.sz) (he : Opn P d e ok) : Opn P (Kd.slice e d) t (fun xs => ∀ x ∈ xs, ok x) := by
  intro H enc w base spare held fuel cs x h
  rcases Deep.open_slice ht h with ⟨rfl, rfl⟩ | ⟨a, len, cap, m, n, D, Pl, rfl, hb, hl, hm, hmm, rfl, hx⟩
  · exact ⟨[], ⟨none, 0, rfl, Nat.le_refl _, rfl, by simp, fun h => absurd h (by simp)⟩, by simp⟩
  · have hlm : len ≤ m := by rw [hmm]; split <;> omega
    have hex : ∀ i, i < len → ∃ a0, (∃ cs', w.cells? base (a.add (i * P.cellsOf e)) (P.cellsOf e) = some cs' ∧ d.K w a0 cs') ∧ ok a0 := by
      intro i hi
      obtain ⟨cs', h1, h2⟩ := hx i (by omega)
      obtain ⟨a0, h3, h4⟩ := he h2
      exact ⟨a0, ⟨cs', h1, h3⟩, h4⟩
    have hlist : ∀ n, n ≤ len → ∃ xs : List α, xs.length = n ∧ ∀ i x, xs[i]? = some x → (∃ cs', w.cells? base (a.add (i * P.cellsOf e)) (P.cellsOf e) = some cs' ∧ d.K w x cs') ∧ ok x := by
      intro n
      induction n with
      | zero => exact fun _ => ⟨[], rfl, by simp⟩
      | succ n ih =>
        intro hn
        obtain ⟨xs, hl, hp⟩ := ih (by omega)
        obtain ⟨a0, h0⟩ := hex n (by omega)
        refine ⟨xs ++ [a0], by simp [hl], fun i x hi => ?_⟩
        rcases Nat.lt_or_ge i xs.length with h | h
        · rw [List.getElem?_append_left h] at hi
          exact hp i x hi
        · have : i = n := by
            have := (List.getElem?_eq_some_iff.1 hi).1
            simp at this
            omega
          subst this
          have : a0 = x := by simpa [← hl] using hi
          subst this
          exact h0
    obtain ⟨xs, hlen, hp⟩ := hlist len (Nat.le_refl _)
    refine ⟨xs, ⟨some a, cap, by rw [hlen], by omega, rfl, ?_, fun _ => ⟨a, rfl, fun j p hj => ?_⟩⟩, fun x hx => ?_⟩
    · rw [hlen]; unfold maxLen at hm; omega
    · obtain ⟨⟨cs', h1, h2⟩, _⟩ := hp j p hj
      refine ⟨cs', d.K_len h2, h2, fun i u hu => ?_⟩
      obtain ⟨_, hlen', hc'⟩ := World.cells?_some h1
      have := hc' i (by rw [← hlen']; exact (List.getElem?_eq_some_iff.1 hu).1)
      rw [← hc, ← Deep.add_add, this, hu]
    · obtain ⟨i, hi⟩ := List.getElem?_of_mem hx
      exact (hp i x hi).2
/-- The same, and its length. -/
theorem opn_sliceL {α : Type} {d : Kd α} {t e : TypeId} {ok : α → Prop} (ht : P.underlying t = some (.slice e)) (hc : P.cellsOf e = d.sz) (he : Opn P d e ok) : Opn P (Kd.slice e d) t (fun xs => xs.length ≤ 9223372036854775807 ∧ ∀ x ∈ xs, ok x) := by
  intro H enc w base spare held fuel cs x h
  obtain ⟨a, hK, ho⟩ := opn_slice ht hc he h
  obtain ⟨A, c, hcs, hl, hC⟩ := hK
  exact ⟨a, ⟨A, c, hcs, hl, hC⟩, hC.2.1, ho⟩
end
end Go.Proofs.Ytiaoppikdgoieaa.Opn
