/- The plain law of FlagsContent: what the printed functions answer is true. -/
import Derived.Test.YtbhfenpccccloaaPC14
import Derived.Test.YtbhfenpccccloaaF17
namespace Go.Proofs.Ytbhfenpccccloaa.Pure
open Go.RowKit Go.Proofs.Ytbhfenpccccloaa.M Go.Proofs.Ytbhfenpccccloaa.Hand Go.Proofs.YtbhfenpccccloaaW.PrintWords Go.Proofs.YtbhfenpccccloaaW.PrintLast Go.Proofs.YtbhfenpccccloaaW.PrintMore
set_option linter.unusedVariables false
set_option linter.unusedSimpArgs false
theorem content_f (m o y : List ByteArray) (k : Nat) : content_Kind.f k o [m, y] = some (if m = o then (if y = o then 0 else 1) else if y = o then 1 else if m = y then 1 else 2) := by
  have hle := othersG_len o [m, y] []
  unfold content_Kind.f content_Differing.f
  rw [if_pos (by simp at hle; omega), Option.bind_some]
  congr 1
  by_cases h1 : m = o
  · by_cases h2 : y = o
    · simp [othersG, h1, h2, mn]
    · simp [othersG, h1, h2, mn]
  · by_cases h2 : y = o
    · simp [othersG, h1, h2, mn]
    · by_cases h3 : m = y
      · have h3' : y = m := h3.symm
        subst h3'
        simp [othersG, h2, mn]
      · have h3' : ¬ y = m := fun e => h3 e.symm
        simp [othersG, h1, h2, h3, h3', mn]
theorem FlagsContent (l0 : List ByteArray) (n0 : l0.length ≤ 9223372036854775807) (o0 : ∀ s ∈ l0, s.size ≤ 9223372036854775807) (l1 : List ByteArray) (n1 : l1.length ≤ 9223372036854775807) (o1 : ∀ s ∈ l1, s.size ≤ 9223372036854775807) (l2 : List ByteArray) (n2 : l2.length ≤ 9223372036854775807) (o2 : ∀ s ∈ l2, s.size ≤ 9223372036854775807) : ∃ k, sennitlaw14_FlagsContent.f k l0 l1 l2 = some true := by
  obtain ⟨t, ht, hT⟩ := few14 l0 l1 l2 n0 n1 n2
  refine ⟨100, ?_⟩
  unfold sennitlaw14_FlagsContent.f
  rw [awake14 _ (by omega), Option.bind_some, ht _ (by omega), Option.bind_some]
  cases t with
  | false => rfl
  | true =>
    obtain ⟨⟨a1, a2⟩, ⟨b1, b2⟩, ⟨c1, c2⟩⟩ := hT rfl
    rw [if_pos rfl, kind_f l0 l1 l2 (by omega) (by omega) _ (by omega), Option.bind_some, content_f, Option.bind_some, if_pos rfl]
    unfold kindG
    by_cases h1 : l0 = l1
    · by_cases h2 : l2 = l1
      · simp [h1, h2]
      · simp [h1, h2]
    · by_cases h2 : l2 = l1
      · simp [h1, h2]
      · by_cases h3 : l0 = l2
        · simp [h1, h2, h3]
        · simp [h1, h2, h3]
end Go.Proofs.Ytbhfenpccccloaa.Pure
