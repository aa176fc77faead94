/- The plain law of DotsEnds: what the printed functions answer is true. -/
import Derived.Test.YtbhfenpccccloaaPC15
import Derived.Test.YtbhfenpccccloaaF6
namespace Go.Proofs.Ytbhfenpccccloaa.Pure
open Go.RowKit Go.Proofs.Ytbhfenpccccloaa.M Go.Proofs.Ytbhfenpccccloaa.Hand Go.Proofs.YtbhfenpccccloaaW.PrintWords Go.Proofs.YtbhfenpccccloaaW.PrintLast Go.Proofs.YtbhfenpccccloaaW.PrintMore
set_option linter.unusedVariables false
theorem DotsEnds (l0 : List ByteArray) (n0 : l0.length ≤ 9223372036854775807) (o0 : ∀ s ∈ l0, s.size ≤ 9223372036854775807) : ∃ k, sennitlaw15_DotsEnds.f k l0 = some true := by
  obtain ⟨b, hb, hB⟩ := few_f l0 30 (by omega) n0
  refine ⟨1000, ?_⟩
  unfold sennitlaw15_DotsEnds.f
  rw [awake15 _ (by omega), Option.bind_some, show (30 : Int) = ((30 : Nat) : Int) from rfl, hb _ (by omega), Option.bind_some]
  cases b with
  | false => rfl
  | true =>
    obtain ⟨h1, h2⟩ := hB rfl
    have h3 : ∀ s ∈ l0, s.size ≤ 1000000 := fun s hs => by have := h2 s hs; omega
    rw [if_pos rfl]
    rw [Block_f l0 (by omega) h3, Option.bind_some]
    simp only []
    have key : ∀ d i k, i ≤ l0.length + 1 → l0.length + 1 - i = d → d < k → sennitlaw15_DotsEnds.l0 k l0 true (l0.map blk ++ [endB]) (i : Int) = some true := by
      intro d
      have hL : (l0.map blk ++ [endB]).length = l0.length + 1 := by simp
      induction d with
      | zero =>
        intro i k hi hd hk
        obtain ⟨k, rfl⟩ : ∃ m, k = m + 1 := ⟨k - 1, by omega⟩
        rw [sennitlaw15_DotsEnds.l0, if_neg (by omega), if_pos rfl, hL]
        congr 1
        rw [beq_iff_eq]; unfold wrap64; omega
      | succ d ih =>
        intro i k hi hd hk
        obtain ⟨k, rfl⟩ : ∃ m, k = m + 1 := ⟨k - 1, by omega⟩
        have hlt : i < (l0.map blk ++ [endB]).length := by omega
        rw [sennitlaw15_DotsEnds.l0, if_pos (by omega), if_pos (by omega), rdOf_get _ _ _ hlt, wrap_succ hlt (by omega), hL]
        rw [if_neg]
        · exact ih (i + 1) k (by omega) (by omega) (by omega)
        · have e : ((i : Int) == wrap64 (((l0.length + 1 : Nat) : Int) - 1)) = decide (i = l0.length) := by
            rw [show wrap64 (((l0.length + 1 : Nat) : Int) - 1) = (l0.length : Int) by unfold wrap64; omega, Bool.eq_iff_iff, beq_iff_eq, decide_eq_true_iff]; omega
          rw [e]
          by_cases hi2 : i = l0.length
          · subst hi2
            have : (l0.map blk ++ [endB])[l0.length] = endB := by rw [List.getElem_append_right (by simp)]; simp
            rw [this, decide_eq_true rfl, (beq_iff_eq (a := endB.toList)).2 ((end_iff _).2 rfl)]; decide
          · have hlt2 : i < l0.length := by omega
            have : (l0.map blk ++ [endB])[i] = blk l0[i] := by rw [List.getElem_append_left (by simp; omega)]; simp
            rw [this, decide_eq_false hi2]
            have h0 : ((blk l0[i]).toList == ([46, 10] : List UInt8)) = false := by rw [beq_eq_false_iff_ne]; exact fun h => blk_ne_end _ ((end_iff _).1 h)
            rw [h0]; decide
    exact key (l0.length + 1) 0 _ (by omega) (by omega) (by omega)
end Go.Proofs.Ytbhfenpccccloaa.Pure
