/- intern.All's numbers. Plain Lean. -/
import Derived.Test.YtbhfenpccccloaaH11
namespace Go.Proofs.Ytbhfenpccccloaa.M
open Go.RowKit Go.Proofs Go.Proofs.Ytbhfenpccccloaa.Hand Go.Proofs.YtbhfenpccccloaaW.PrintWords Go.Proofs.YtbhfenpccccloaaW.PrintLast Go.Proofs.YtbhfenpccccloaaW.PrintMore
set_option linter.unusedVariables false
def numL : List ByteArray → List ByteArray → List Int → List ByteArray × List Int
  | xs, [], ids => (xs, ids)
  | xs, s :: t, ids => numL (addG xs s) t (ids ++ [(ixG xs s : Int)])
def numA : List ByteArray → List (List ByteArray) → List (List Int) → List ByteArray × List (List Int)
  | xs, [], out => (xs, out)
  | xs, l :: t, out => numA (numL xs l []).1 t (out ++ [(numL xs l []).2])
theorem addG_len (xs : List ByteArray) (s : ByteArray) : (addG xs s).length ≤ xs.length + 1 := by unfold addG; split <;> simp
theorem numL_len : ∀ (l : List ByteArray) (xs : List ByteArray) (ids : List Int), (numL xs l ids).1.length ≤ xs.length + l.length ∧ (numL xs l ids).2.length = ids.length + l.length := by
  intro l
  induction l with
  | nil => intro xs ids; exact ⟨Nat.le_refl _, rfl⟩
  | cons s t ih =>
    intro xs ids
    obtain ⟨h1, h2⟩ := ih (addG xs s) (ids ++ [(ixG xs s : Int)])
    have := addG_len xs s
    simp only [numL, List.length_cons]
    refine ⟨by omega, ?_⟩
    rw [h2]; simp; omega
theorem numA_len : ∀ (fs : List (List ByteArray)) (xs : List ByteArray) (out : List (List Int)), (numA xs fs out).2.length = out.length + fs.length := by
  intro fs
  induction fs with
  | nil => intro xs out; rfl
  | cons l t ih => intro xs out; rw [numA, ih]; simp; omega
def okF (fs : List (List ByteArray)) : Prop := fs.length ≤ 100 ∧ ∀ l ∈ fs, l.length ≤ 100 ∧ ∀ s ∈ l, s.size ≤ 1000
instance (fs : List (List ByteArray)) : Decidable (okF fs) := inferInstanceAs (Decidable (_ ∧ _))
theorem cell_alloc_ {W : World} (o : Obj) {p : Addr} {x : Value} (h : W.cell? p = some x) : (W.alloc o).cell? p = some x :=
  ((below_alloc (Below.refl W.heap.size W) o).cell (World.block_lt_of_cell? _ _ h)).trans h
end Go.Proofs.Ytbhfenpccccloaa.M
