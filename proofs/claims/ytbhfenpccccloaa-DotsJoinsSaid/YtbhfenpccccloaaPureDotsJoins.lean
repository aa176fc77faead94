/- The plain law of DotsJoins: what the printed functions answer is true. -/
import Derived.Test.YtbhfenpccccloaaPC15
import Derived.Test.YtbhfenpccccloaaF7
namespace Go.Proofs.Ytbhfenpccccloaa.Pure
open Go.RowKit Go.Proofs.Ytbhfenpccccloaa.M Go.Proofs.Ytbhfenpccccloaa.Hand Go.Proofs.YtbhfenpccccloaaW.PrintWords Go.Proofs.YtbhfenpccccloaaW.PrintLast Go.Proofs.YtbhfenpccccloaaW.PrintMore
set_option linter.unusedVariables false
theorem DotsJoins (l0 : List ByteArray) (n0 : l0.length ≤ 9223372036854775807) (o0 : ∀ s ∈ l0, s.size ≤ 9223372036854775807) (l1 : List ByteArray) (n1 : l1.length ≤ 9223372036854775807) (o1 : ∀ s ∈ l1, s.size ≤ 9223372036854775807) : ∃ k, sennitlaw15_DotsJoins.f k l0 l1 = some true := by
  obtain ⟨b, hb, hB⟩ := few_f l0 30 (by omega) n0
  refine ⟨1000, ?_⟩
  unfold sennitlaw15_DotsJoins.f
  rw [awake15 _ (by omega), Option.bind_some, show (30 : Int) = ((30 : Nat) : Int) from rfl, hb _ (by omega), Option.bind_some]
  obtain ⟨c, hc, hC⟩ := few_f l1 30 (by omega) n1
  cases b with
  | false => rw [if_neg (by decide), sennitlaw15_DotsJoins.j0, if_pos rfl]
  | true =>
    obtain ⟨h1, h2⟩ := hB rfl
    have h3 : ∀ s ∈ l0, s.size ≤ 1000000 := fun s hs => by have := h2 s hs; omega
    rw [if_pos rfl]
    rw [hc _ (by omega), Option.bind_some, sennitlaw15_DotsJoins.j0]
    cases c with
    | false => rfl
    | true =>
      obtain ⟨g1, g2⟩ := hC rfl
      have g3 : ∀ s ∈ l1, s.size ≤ 1000000 := fun s hs => by have := g2 s hs; omega
      rw [if_neg (by decide), Block_f l0 (by omega) h3, Option.bind_some, Block_f l1 (by omega) g3, Option.bind_some, Option.bind_some, if_pos (by simp; omega), Option.bind_some, if_pos (by simp; omega)]
      simp only [List.nil_append]
      rw [Block_f (l0 ++ l1) (by simp; omega) (fun s hs => by
        rcases List.mem_append.1 hs with h | h
        · exact h3 s h
        · exact g3 s h), Option.bind_some]
      have hL : (l0.map blk ++ [endB]).length = l0.length + 1 := by simp
      have hW : wrap64 (((l0.map blk ++ [endB]).length : Int) - 1) = (l0.length : Int) := by rw [hL]; unfold wrap64; omega
      have hT : (l0.map blk ++ [endB]).take l0.length = l0.map blk := by rw [List.take_append_of_le_length (by simp)]; rw [List.take_of_length_le (by simp)]
      have hA : (l0 ++ l1).map blk ++ [endB] = l0.map blk ++ (l1.map blk ++ [endB]) := by simp
      simp only [Option.bind_some, hW, Int.toNat_natCast, hT, List.nil_append, hA]
      rw [if_neg (by rw [hL]; omega), if_pos trivial, List.any_append]
      have hS : sennitref01_Same.f 999 (l0.map blk ++ (l1.map blk ++ [endB])) (l0.map blk ++ (l1.map blk ++ [endB])) = some true := by
        rw [same_f _ _ (by simp; omega) _ (by simp; omega)]; simp
      cases hd : l0.any dotB with
      | true =>
        rw [if_pos rfl, if_pos (by simp), if_pos (by omega), if_pos (by rw [hL]; omega), if_pos (by simp; omega), if_pos (by simp; omega), hS]; rfl
      | false =>
        rw [if_neg (by decide), if_pos (by simp), if_pos (by omega), if_pos (by rw [hL]; omega), if_pos (by simp; omega), if_pos (by simp; omega), hS]; rfl
end Go.Proofs.Ytbhfenpccccloaa.Pure
