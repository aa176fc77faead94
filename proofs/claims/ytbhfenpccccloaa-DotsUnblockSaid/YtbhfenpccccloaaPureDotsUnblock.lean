/- The plain law of DotsUnblock: what the printed functions answer is true. -/
import Derived.Test.YtbhfenpccccloaaPC15
import Derived.Test.YtbhfenpccccloaaF4
namespace Go.Proofs.Ytbhfenpccccloaa.Pure
open Go.RowKit Go.Proofs.Ytbhfenpccccloaa.M Go.Proofs.Ytbhfenpccccloaa.Hand Go.Proofs.YtbhfenpccccloaaW.PrintWords Go.Proofs.YtbhfenpccccloaaW.PrintLast Go.Proofs.YtbhfenpccccloaaW.PrintMore
set_option linter.unusedVariables false
theorem DotsUnblock (l0 : List ByteArray) (n0 : l0.length ≤ 9223372036854775807) (o0 : ∀ s ∈ l0, s.size ≤ 9223372036854775807) : ∃ k, sennitlaw15_DotsUnblock.f k l0 = some true := by
  obtain ⟨b, hb, hB⟩ := few_f l0 30 (by omega) n0
  refine ⟨1000, ?_⟩
  unfold sennitlaw15_DotsUnblock.f
  rw [awake15 _ (by omega), Option.bind_some, show (30 : Int) = ((30 : Nat) : Int) from rfl, hb _ (by omega), Option.bind_some]
  cases b with
  | false => rfl
  | true =>
    obtain ⟨h1, h2⟩ := hB rfl
    have h3 : ∀ s ∈ l0, s.size ≤ 1000000 := fun s hs => by have := h2 s hs; omega
    rw [if_pos rfl]
    rw [unblock_f l0 (by omega) _ (by omega), Option.bind_some, refUnblock_f l0 (by omega) _ (by omega), Option.bind_some, if_pos rfl, if_pos rfl]
    have hlen : (unblR (unbl l0) [] 0).1.length < 1000 := by
      have : ∀ l t, unbl l = some t → t.length ≤ l.length := by
        intro l
        induction l with
        | nil => intro t h; cases h
        | cons s l ih =>
          intro t h
          unfold unbl at h
          split at h
          · injection h with h; subst h; simp
          · cases hu : unbl l with
            | none => rw [hu] at h; cases h
            | some u => rw [hu] at h; injection h with h; subst h; have := ih u hu; simp; omega
      unfold unblR
      cases hu : unbl l0 with
      | none => simp
      | some t => have := this l0 t hu; simp; omega
    rw [same_f _ _ (by omega) _ hlen, Option.bind_some]
    simp
end Go.Proofs.Ytbhfenpccccloaa.Pure
