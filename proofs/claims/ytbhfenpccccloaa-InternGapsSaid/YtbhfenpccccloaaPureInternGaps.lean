/- The plain law of InternGaps: what the printed functions answer is true. -/
import Derived.Test.YtbhfenpccccloaaPC02
import Derived.Test.YtbhfenpccccloaaF11
namespace Go.Proofs.Ytbhfenpccccloaa.Pure
open Go.RowKit Go.Proofs.Ytbhfenpccccloaa.M Go.Proofs.Ytbhfenpccccloaa.Hand Go.Proofs.YtbhfenpccccloaaW.PrintWords Go.Proofs.YtbhfenpccccloaaW.PrintLast Go.Proofs.YtbhfenpccccloaaW.PrintMore
set_option linter.unusedVariables false
set_option linter.unusedSimpArgs false
def gapL : Nat → List Int → Option Nat
  | n, [] => some n
  | n, x :: t => if x < 0 ∨ x > (n : Int) then none else if x = (n : Int) then gapL (n + 1) t else gapL n t
def gapA : Nat → List (List Int) → Option Nat
  | n, [] => some n
  | n, r :: t => (gapL n r).bind fun m => gapA m t
theorem ixG_lt (xs : List ByteArray) (s : ByteArray) (h : s ∈ xs) : ixG xs s < xs.length := by
  induction xs with
  | nil => cases h
  | cons x t ih =>
    simp only [ixG, List.length_cons]
    by_cases e : x = s
    · rw [if_pos e]; omega
    · rw [if_neg e]
      have := ih (by rcases List.mem_cons.1 h with h | h; exact absurd h.symm e; exact h)
      omega
theorem numL_acc : ∀ (l xs : List ByteArray) (ids : List Int), (numL xs l ids).1 = (numL xs l []).1 ∧ (numL xs l ids).2 = ids ++ (numL xs l []).2 := by
  intro l
  induction l with
  | nil => intro xs ids; simp [numL]
  | cons s t ih =>
    intro xs ids
    simp only [numL]
    obtain ⟨a1, a2⟩ := ih (addG xs s) (ids ++ [(ixG xs s : Int)])
    obtain ⟨b1, b2⟩ := ih (addG xs s) ([] ++ [(ixG xs s : Int)])
    refine ⟨by rw [a1, b1], by rw [a2, b2]; simp⟩
theorem numA_acc : ∀ (fs : List (List ByteArray)) (xs : List ByteArray) (out : List (List Int)), (numA xs fs out).1 = (numA xs fs []).1 ∧ (numA xs fs out).2 = out ++ (numA xs fs []).2 := by
  intro fs
  induction fs with
  | nil => intro xs out; simp [numA]
  | cons s t ih =>
    intro xs out
    simp only [numA]
    obtain ⟨a1, a2⟩ := ih (numL xs s []).1 (out ++ [(numL xs s []).2])
    obtain ⟨b1, b2⟩ := ih (numL xs s []).1 ([] ++ [(numL xs s []).2])
    refine ⟨by rw [a1, b1], by rw [a2, b2]; simp⟩
theorem gap_row : ∀ (l xs : List ByteArray), gapL xs.length (numL xs l []).2 = some (numL xs l []).1.length := by
  intro l
  induction l with
  | nil => intro xs; rfl
  | cons s t ih =>
    intro xs
    have e1 := (numL_acc t (addG xs s) [(ixG xs s : Int)]).1
    have e2 := (numL_acc t (addG xs s) [(ixG xs s : Int)]).2
    show gapL xs.length (numL (addG xs s) t [(ixG xs s : Int)]).2 = some (numL (addG xs s) t [(ixG xs s : Int)]).1.length
    rw [e1, e2, List.singleton_append, gapL]
    have hle := ixG_le xs s
    rw [if_neg (by omega), ← ih (addG xs s)]
    by_cases h : s ∈ xs
    · have := ixG_lt xs s h
      rw [if_neg (by omega), addG, if_pos h]
    · rw [if_pos (by rw [ixG_len xs s h]), addG, if_neg h, List.length_append]
      rfl
theorem gap_all : ∀ (fs : List (List ByteArray)) (xs : List ByteArray), gapA xs.length (numA xs fs []).2 = some (numA xs fs []).1.length := by
  intro fs
  induction fs with
  | nil => intro xs; rfl
  | cons l t ih =>
    intro xs
    have e1 := (numA_acc t (numL xs l []).1 [(numL xs l []).2]).1
    have e2 := (numA_acc t (numL xs l []).1 [(numL xs l []).2]).2
    show gapA xs.length (numA (numL xs l []).1 t [(numL xs l []).2]).2 = some (numA (numL xs l []).1 t [(numL xs l []).2]).1.length
    rw [e1, e2, List.singleton_append, gapA, gap_row, Option.bind_some]
    exact ih _
theorem lawGaps_l1 (a : List (List Int)) (i : Nat) (hi : i < a.length) (ha : a.length ≤ 6) (row : List Int) (hrow : a[i] = row) (h20 : row.length ≤ 20) (m K : Nat) (hs : ∀ k, K ≤ k → sennitlaw02_InternGaps.l0 k true a (m : Int) ((i + 1 : Nat) : Int) = some true) (d : Nat) :
    ∀ (j n : Nat), j ≤ row.length → row.length - j = d → n ≤ 100 * i + j → gapL n (row.drop j) = some m → ∀ k, K + 2 * d + 1 ≤ k → sennitlaw02_InternGaps.l1 k true a (n : Int) (i : Int) (j : Int) = some true := by
  induction d with
  | zero =>
    intro j n hj hd hn hg k hk
    obtain ⟨k, rfl⟩ : ∃ q, k = q + 1 := ⟨k - 1, by omega⟩
    rw [List.drop_of_length_le (by omega), gapL] at hg
    obtain rfl := Option.some.inj hg
    rw [sennitlaw02_InternGaps.l1, if_pos (by omega), if_pos (by omega), rdL5 _ _ hi, hrow, if_neg (by omega), wrap_succ hi (by omega)]
    exact hs k (by omega)
  | succ d ih =>
    intro j n hj hd hn hg k hk
    obtain ⟨k, rfl⟩ : ∃ q, k = q + 2 := ⟨k - 2, by omega⟩
    have hlt : j < row.length := by omega
    rw [List.drop_eq_getElem_cons hlt, gapL] at hg
    by_cases hc : row[j] < 0 ∨ row[j] > (n : Int)
    · rw [if_pos hc] at hg; cases hg
    · rw [if_neg hc] at hg
      rw [sennitlaw02_InternGaps.l1, if_pos (by omega), if_pos (by omega), rdL5 _ _ hi, hrow, if_pos (by omega), if_pos (by omega), rd_get _ _ hlt, if_neg (by omega), decide_eq_false (by omega), sennitlaw02_InternGaps.j2, if_neg (by decide), if_pos (by omega), if_pos (by omega), if_pos (by omega), rdL5 _ _ hi, hrow, if_pos (by omega), rd_get _ _ hlt]
      by_cases he : row[j] = (n : Int)
      · rw [if_pos he] at hg
        rw [if_pos he, wrap_succ hlt (by omega), show wrap64 ((n : Int) + 1) = ((n + 1 : Nat) : Int) from by unfold wrap64; omega]
        exact ih (j + 1) (n + 1) (by omega) (by omega) (by omega) hg k (by omega)
      · rw [if_neg he] at hg
        rw [if_neg he, wrap_succ hlt (by omega)]
        exact ih (j + 1) n (by omega) (by omega) (by omega) hg k (by omega)
theorem gapL_le : ∀ (l : List Int) (n m : Nat), gapL n l = some m → m ≤ n + l.length := by
  intro l
  induction l with
  | nil => intro n m h; rw [gapL] at h; injection h with h; simp; omega
  | cons x t ih =>
    intro n m h
    rw [gapL] at h
    simp only [List.length_cons]
    split at h
    · cases h
    · split at h
      · have := ih _ _ h; omega
      · have := ih _ _ h; omega
theorem lawGaps_l0 (a : List (List Int)) (ha : a.length ≤ 6) (hr : ∀ x ∈ a, x.length ≤ 20) (d : Nat) :
    ∀ (i n m : Nat), i ≤ a.length → a.length - i = d → n ≤ 100 * i → gapA n (a.drop i) = some m → ∀ k, 50 * d + 1 ≤ k → sennitlaw02_InternGaps.l0 k true a (n : Int) (i : Int) = some true := by
  induction d with
  | zero =>
    intro i n m hi hd hn hg k hk
    obtain ⟨k, rfl⟩ : ∃ q, k = q + 1 := ⟨k - 1, by omega⟩
    rw [sennitlaw02_InternGaps.l0, if_neg (by omega)]
  | succ d ih =>
    intro i n m hi hd hn hg k hk
    obtain ⟨k, rfl⟩ : ∃ q, k = q + 1 := ⟨k - 1, by omega⟩
    have hlt : i < a.length := by omega
    have h20 := hr _ (List.getElem_mem hlt)
    rw [List.drop_eq_getElem_cons hlt, gapA] at hg
    obtain ⟨m1, hm1, hg2⟩ := Option.bind_eq_some_iff.1 hg
    have hle := gapL_le _ _ _ hm1
    rw [sennitlaw02_InternGaps.l0, if_pos (by omega)]
    exact lawGaps_l1 a i hlt ha a[i] rfl h20 m1 (50 * d + 1) (fun k2 hk2 => ih (i + 1) m1 m (by omega) (by omega) (by omega) hg2 k2 hk2) a[i].length 0 n (by omega) (by omega) (by omega) (by rw [List.drop_zero]; exact hm1) k (by omega)
theorem InternGaps (l0 : List (List ByteArray)) (n0 : l0.length ≤ 9223372036854775807) (o0 : ∀ x ∈ l0, x.length ≤ 9223372036854775807 ∧ ∀ s ∈ x, s.size ≤ 9223372036854775807) : ∃ k, sennitlaw02_InternGaps.f k l0 = some true := by
  obtain ⟨b, hb, hB⟩ := few02_f l0 n0 (fun x hx => (o0 x hx).1)
  refine ⟨3000, ?_⟩
  unfold sennitlaw02_InternGaps.f
  rw [sennitlaw02_awake.f, Option.bind_some, hb _ (by omega), Option.bind_some]
  cases b with
  | false => rfl
  | true =>
    obtain ⟨h1, h2⟩ := hB rfl
    have hl : (numA [] l0 []).2.length = l0.length := by rw [numA_len]; simp
    rw [if_pos rfl, intern_All.f, if_pos (small_ok h1 h2), Option.bind_some]
    refine lawGaps_l0 _ (by omega) (fun x hx => ?_) _ 0 0 _ (by omega) rfl (by omega) (gap_all l0 []) 3000 (by omega)
    rcases numA_rows _ _ _ x hx with h | ⟨l, hl, e⟩
    · cases h
    · rw [e]; exact (h2 l hl).1
end Go.Proofs.Ytbhfenpccccloaa.Pure
