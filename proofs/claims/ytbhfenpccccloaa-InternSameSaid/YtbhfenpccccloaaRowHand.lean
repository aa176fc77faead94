/- Small words for the laws' rows. -/
import Derived.Test.YtbhfenpccccloaaWMore
namespace Go.Proofs.Ytbhfenpccccloaa.Hand
theorem slice_cells {a A : Option Addr} {len cap n c : Nat} (h : (Value.slice a len cap).cells.toList = [.slice A n c]) : a = A ∧ len = n ∧ cap = c := by
  simpa [Value.cells] using h
theorem int_cells {k : IntKind} {x y : Int} (h : (Value.int k x).cells.toList = [.int k y]) : y = x := by
  simp [Value.cells] at h; exact h.symm
theorem str_cells {x y : ByteArray} (h : (Value.string x).cells.toList = [.string y]) : y = x := by
  simp [Value.cells] at h; exact h.symm
theorem agg_cells {xs : Array Value} {l : List Value} (h : (Value.agg xs).cells.toList = l) : xs = l.toArray := by
  have : xs.toList = l := h
  rw [← this]
end Go.Proofs.Ytbhfenpccccloaa.Hand
