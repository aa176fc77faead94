/- The plain law of DotsBack: what the printed functions answer is true. -/
import Derived.Test.YtbhfenpccccloaaPC15
import Derived.Test.YtbhfenpccccloaaF5
namespace Go.Proofs.Ytbhfenpccccloaa.Pure
open Go.RowKit Go.Proofs.Ytbhfenpccccloaa.M Go.Proofs.Ytbhfenpccccloaa.Hand Go.Proofs.YtbhfenpccccloaaW.PrintWords Go.Proofs.YtbhfenpccccloaaW.PrintLast Go.Proofs.YtbhfenpccccloaaW.PrintMore
set_option linter.unusedVariables false
theorem DotsBack (l0 : List ByteArray) (n0 : l0.length ≤ 9223372036854775807) (o0 : ∀ s ∈ l0, s.size ≤ 9223372036854775807) (l1 : List ByteArray) (n1 : l1.length ≤ 9223372036854775807) (o1 : ∀ s ∈ l1, s.size ≤ 9223372036854775807) : ∃ k, sennitlaw15_DotsBack.f k l0 l1 = some true := by
  obtain ⟨b, hb, hB⟩ := few_f l0 30 (by omega) n0
  refine ⟨1000, ?_⟩
  unfold sennitlaw15_DotsBack.f
  rw [awake15 _ (by omega), Option.bind_some, show (30 : Int) = ((30 : Nat) : Int) from rfl, hb _ (by omega), Option.bind_some]
  obtain ⟨c, hc, hC⟩ := few_f l1 30 (by omega) n1
  cases b with
  | false => rw [if_neg (by decide), sennitlaw15_DotsBack.j0, if_pos rfl]
  | true =>
    obtain ⟨h1, h2⟩ := hB rfl
    have h3 : ∀ s ∈ l0, s.size ≤ 1000000 := fun s hs => by have := h2 s hs; omega
    rw [if_pos rfl]
    rw [hc _ (by omega), Option.bind_some, sennitlaw15_DotsBack.j0]
    cases c with
    | false => rfl
    | true =>
      obtain ⟨g1, g2⟩ := hC rfl
      rw [if_neg (by decide), Block_f l0 (by omega) h3, Option.bind_some, Option.bind_some, if_pos (by simp; omega), Option.bind_some, if_pos (by simp; omega)]
      simp only [List.nil_append]
      rw [unblock_f _ (by simp; omega) _ (by simp; omega), Option.bind_some]
      have e1 : unbl (l0.map blk ++ [endB] ++ l1) = some (l0.map blk) := by rw [List.append_assoc]; exact unbl_blocked l0 l1
      rw [e1]
      simp only [unblR, List.nil_append]
      rw [Strip_f _ (by simp; omega) (fun s hs => by
        obtain ⟨t, ht, rfl⟩ := List.mem_map.1 hs
        have := blk_size t; have := h3 t ht; omega), Option.bind_some]
      simp only [map_unb_blk, any_blk]
      have e2 : (((0 + (l0.map blk).length + 1 : Nat)) : Int) = wrap64 ((l0.length : Int) + 1) := by simp [wrap64]; omega
      rw [e2]
      cases hd : l0.any dotB with
      | true =>
        simp only [if_true]
        rw [same_f _ _ n0 _ (by omega)]
        simp
      | false =>
        simp only [if_true]
        rw [if_neg (by decide), if_neg (by decide), same_f _ _ (by simp; omega) _ (by simp; omega)]
        simp [map_blk_of_none l0 hd]
end Go.Proofs.Ytbhfenpccccloaa.Pure
