/- The plain law of FlagsParts: what the printed functions answer is true. -/
import Derived.Test.YtbhfenpccccloaaPC14
import Derived.Test.YtbhfenpccccloaaF16
namespace Go.Proofs.Ytbhfenpccccloaa.Pure
open Go.RowKit Go.Proofs.Ytbhfenpccccloaa.M Go.Proofs.Ytbhfenpccccloaa.Hand Go.Proofs.YtbhfenpccccloaaW.PrintWords Go.Proofs.YtbhfenpccccloaaW.PrintLast Go.Proofs.YtbhfenpccccloaaW.PrintMore
set_option linter.unusedVariables false
set_option linter.unusedSimpArgs false
theorem FlagsParts (l0 : List ByteArray) (n0 : l0.length ≤ 9223372036854775807) (o0 : ∀ s ∈ l0, s.size ≤ 9223372036854775807) (l1 : List ByteArray) (n1 : l1.length ≤ 9223372036854775807) (o1 : ∀ s ∈ l1, s.size ≤ 9223372036854775807) (l2 : List ByteArray) (n2 : l2.length ≤ 9223372036854775807) (o2 : ∀ s ∈ l2, s.size ≤ 9223372036854775807) : ∃ k, sennitlaw14_FlagsParts.f k l0 l1 l2 = some true := by
  obtain ⟨t, ht, hT⟩ := few14 l0 l1 l2 n0 n1 n2
  refine ⟨101, ?_⟩
  unfold sennitlaw14_FlagsParts.f
  rw [awake14 _ (by omega), Option.bind_some, ht _ (by omega), Option.bind_some]
  cases t with
  | false => rfl
  | true =>
    obtain ⟨a, b, c⟩ := hT rfl
    have hlen : ∀ a0 : Int, (resultG a0 l0 l1 l2).length ≤ 60 := fun a0 => resultG_len a0 l0 l1 l2 a.1 b.1 c.1
    have fin : ∀ x y : List ByteArray, resultG 101 l0 l1 l2 = x → resultG 69 l0 l1 l2 = y → sennitlaw14_FlagsParts.j0 101 l0 l1 l2 true x y = some true := by
      rintro x y rfl rfl
      have h1 := hlen 101
      have h2 := hlen 69
      rw [sennitlaw14_FlagsParts.j0, if_pos rfl, result_f 101 (by omega) (by omega) l0 l1 l2 a b c _ (by omega), Option.bind_some, same_f _ _ (by omega) _ (by omega), Option.bind_some, if_pos (by simp), result_f 69 (by omega) (by omega) l0 l1 l2 a b c _ (by omega), Option.bind_some, same_f _ _ (by omega) _ (by omega), Option.bind_some]
      simp
    rw [if_pos rfl, kind_f l0 l1 l2 (by omega) (by omega) _ (by omega), Option.bind_some, result_f 51 (by omega) (by omega) l0 l1 l2 a b c _ (by omega), Option.bind_some, Option.bind_some]
    have hk2 : kindG l0 l1 l2 = 2 ∨ kindG l0 l1 l2 = 4 ∨ (kindG l0 l1 l2 ≠ 2 ∧ kindG l0 l1 l2 ≠ 4) := by omega
    by_cases h4 : kindG l0 l1 l2 = 4
    · rw [if_pos h4, result_f 120 (by omega) (by omega) l0 l1 l2 a b c _ (by omega), Option.bind_some, result_f 88 (by omega) (by omega) l0 l1 l2 a b c _ (by omega), Option.bind_some]
      exact fin _ _ (by simp [resultG, h4, doesG, rowOf]) (by simp [resultG, h4, doesG, rowOf])
    · rw [if_neg h4]
      exact fin _ _ (by by_cases h2 : kindG l0 l1 l2 = 2 <;> simp [resultG, h4, h2, doesG, rowOf]) (by by_cases h2 : kindG l0 l1 l2 = 2 <;> simp [resultG, h4, h2, doesG, rowOf])
end Go.Proofs.Ytbhfenpccccloaa.Pure
