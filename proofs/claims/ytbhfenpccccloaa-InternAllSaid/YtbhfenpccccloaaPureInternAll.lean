/- The plain law of InternAll: what the printed functions answer is true. -/
import Derived.Test.YtbhfenpccccloaaPC02
import Derived.Test.YtbhfenpccccloaaF9
namespace Go.Proofs.Ytbhfenpccccloaa.Pure
open Go.RowKit Go.Proofs.Ytbhfenpccccloaa.M Go.Proofs.Ytbhfenpccccloaa.Hand Go.Proofs.YtbhfenpccccloaaW.PrintWords Go.Proofs.YtbhfenpccccloaaW.PrintLast Go.Proofs.YtbhfenpccccloaaW.PrintMore
set_option linter.unusedVariables false
set_option linter.unusedSimpArgs false
theorem lawAll_l0 (a : List (List Int)) (ha : a.length ≤ 6) (hr : ∀ x ∈ a, x.length ≤ 20) (d : Nat) : ∀ (i k : Nat), i ≤ a.length → a.length - i = d → 2 * d + 50 ≤ k → sennitlaw02_InternAll.l0 k true a a (i : Int) = some true := by
  induction d with
  | zero =>
    intro i k hi hd hk
    obtain ⟨k, rfl⟩ : ∃ m, k = m + 2 := ⟨k - 2, by omega⟩
    rw [sennitlaw02_InternAll.l0, if_neg (by omega), sennitlaw02_InternAll.j1, if_neg (by decide), if_pos rfl]
    simp
  | succ d ih =>
    intro i k hi hd hk
    obtain ⟨k, rfl⟩ : ∃ m, k = m + 2 := ⟨k - 2, by omega⟩
    have hlt : i < a.length := by omega
    have h20 := hr _ (List.getElem_mem hlt)
    rw [sennitlaw02_InternAll.l0, if_pos (by omega), decide_eq_true (by omega), sennitlaw02_InternAll.j1, if_pos rfl, if_pos (by omega), if_pos (by omega), if_pos (by omega), rdL5 _ _ hlt, sameI_f _ (by omega) _ (by omega), Option.bind_some, if_pos rfl, wrap_succ hlt (by omega)]
    exact ih (i + 1) k (by omega) (by omega) (by omega)
theorem InternAll (l0 : List (List ByteArray)) (n0 : l0.length ≤ 9223372036854775807) (o0 : ∀ x ∈ l0, x.length ≤ 9223372036854775807 ∧ ∀ s ∈ x, s.size ≤ 9223372036854775807) : ∃ k, sennitlaw02_InternAll.f k l0 = some true := by
  obtain ⟨b, hb, hB⟩ := few02_f l0 n0 (fun x hx => (o0 x hx).1)
  refine ⟨3000, ?_⟩
  unfold sennitlaw02_InternAll.f
  rw [sennitlaw02_awake.f, Option.bind_some, hb _ (by omega), Option.bind_some]
  cases b with
  | false => rfl
  | true =>
    obtain ⟨h1, h2⟩ := hB rfl
    have hl : (numA [] l0 []).2.length = l0.length := by rw [numA_len]; simp
    rw [if_pos rfl, intern_All.f, if_pos (small_ok h1 h2), Option.bind_some, refAll_f l0 h1 (fun x hx => (h2 x hx).1) _ (by omega), Option.bind_some]
    refine lawAll_l0 _ (by omega) (fun x hx => ?_) _ 0 3000 (by omega) rfl (by omega)
    rcases numA_rows _ _ _ x hx with h | ⟨l, hl, e⟩
    · cases h
    · rw [e]; exact (h2 l hl).1
end Go.Proofs.Ytbhfenpccccloaa.Pure
