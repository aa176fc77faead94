/- Plain laws over the printed functions of the laws of sennitlaw02. -/
import Derived.Test.YtbhfenpccccloaaPC01
import Derived.Test.YtbhfenpccccloaaF28
import Derived.Test.YtbhfenpccccloaaF34
import Derived.Test.YtbhfenpccccloaaF36
import Derived.Test.YtbhfenpccccloaaF37
namespace Go.Proofs.Ytbhfenpccccloaa.Pure
open Go.RowKit Go.Proofs.Ytbhfenpccccloaa.M Go.Proofs.Ytbhfenpccccloaa.Hand Go.Proofs.YtbhfenpccccloaaW.PrintWords Go.Proofs.YtbhfenpccccloaaW.PrintLast Go.Proofs.YtbhfenpccccloaaW.PrintMore
set_option linter.unusedVariables false
set_option linter.unusedSimpArgs false

theorem rdL1 (xs : List (List ByteArray)) (i : Nat) (h : i < xs.length) : rd_L1 xs (i : Int) = xs[i] := by
  simp [rd_L1, List.getD_eq_getElem?_getD, h]

/-- Few texts: so many, so short. -/
def Small (l : List ByteArray) : Prop := l.length ≤ 20 ∧ ∀ s ∈ l, s.size ≤ 100
theorem few02_l0 (l1 : List (List ByteArray)) (h1 : l1.length ≤ 9223372036854775807) (h2 : ∀ x ∈ l1, x.length ≤ 9223372036854775807) (d : Nat) :
    ∀ i, i ≤ l1.length → i ≤ 7 → 7 - i = d → (∀ j x, j < i → l1[j]? = some x → Small x) →
    ∃ b, (∀ k, 2 * d + 50 ≤ k → sennitlaw02_few.l0 k l1 (i : Int) = some b) ∧ (b = true → l1.length ≤ 6 ∧ ∀ x ∈ l1, Small x) := by
  have fin : ∀ i, i ≤ l1.length → ¬ (i < l1.length ∧ i < 7) → (∀ j x, j < i → l1[j]? = some x → Small x) →
      ∃ b, (∀ k, 50 ≤ k → sennitlaw02_few.l0 k l1 (i : Int) = some b) ∧ (b = true → l1.length ≤ 6 ∧ ∀ x ∈ l1, Small x) := by
    intro i hi hn hp
    refine ⟨decide ((l1.length : Int) ≤ 6), fun k hk => ?_, fun h => ?_⟩
    · obtain ⟨k, rfl⟩ : ∃ q, k = q + 2 := ⟨k - 2, by omega⟩
      have e : sennitlaw02_few.j1 (k + 1) l1 (i : Int) false = some (decide ((l1.length : Int) ≤ 6)) := by
        rw [sennitlaw02_few.j1, if_neg (by decide)]
      rw [sennitlaw02_few.l0]
      by_cases h : i < l1.length
      · rw [if_pos (by omega), decide_eq_false (by omega), e]
      · rw [if_neg (by omega), e]
    · simp only [decide_eq_true_eq] at h
      refine ⟨by omega, fun x hx => ?_⟩
      obtain ⟨j, hj⟩ := List.getElem?_of_mem hx
      have := (List.getElem?_eq_some_iff.1 hj).1
      exact hp j x (by omega) hj
  induction d with
  | zero =>
    intro i hi hi7 hd hp
    obtain ⟨b, h1, h2⟩ := fin i hi (by omega) hp
    exact ⟨b, fun k hk => h1 k (by omega), h2⟩
  | succ d ih =>
    intro i hi hi7 hd hp
    by_cases hc : i < l1.length
    · obtain ⟨c, hcc, hC⟩ := few_f l1[i] 20 (by omega) (h2 _ (List.getElem_mem hc))
      cases c with
      | true =>
        obtain ⟨b, hb, hB⟩ := ih (i + 1) (by omega) (by omega) (by omega) (fun j x hj hx => by
          by_cases e : j = i
          · subst e
            rw [List.getElem?_eq_getElem hc] at hx
            injection hx with hx
            rw [← hx]; exact hC rfl
          · exact hp j x (by omega) hx)
        refine ⟨b, fun k hk => ?_, hB⟩
        obtain ⟨k, rfl⟩ : ∃ q, k = q + 2 := ⟨k - 2, by omega⟩
        rw [sennitlaw02_few.l0, if_pos (by omega), decide_eq_true (by omega), sennitlaw02_few.j1, if_pos rfl, if_pos (by omega), if_pos (by omega), rdL1 _ _ hc, show (20 : Int) = ((20 : Nat) : Int) from rfl, hcc k (by omega), Option.bind_some, if_pos rfl, wrap_succ hc h1]
        exact hb k (by omega)
      | false =>
        refine ⟨false, fun k hk => ?_, fun h => by cases h⟩
        obtain ⟨k, rfl⟩ : ∃ q, k = q + 2 := ⟨k - 2, by omega⟩
        rw [sennitlaw02_few.l0, if_pos (by omega), decide_eq_true (by omega), sennitlaw02_few.j1, if_pos rfl, if_pos (by omega), if_pos (by omega), rdL1 _ _ hc, show (20 : Int) = ((20 : Nat) : Int) from rfl, hcc k (by omega), Option.bind_some, if_neg (by decide)]
    · obtain ⟨b, h1, h2⟩ := fin i hi (by omega) hp
      exact ⟨b, fun k hk => h1 k (by omega), h2⟩
theorem few02_f (l1 : List (List ByteArray)) (h1 : l1.length ≤ 9223372036854775807) (h2 : ∀ x ∈ l1, x.length ≤ 9223372036854775807) :
    ∃ b, (∀ k, 100 ≤ k → sennitlaw02_few.f k l1 = some b) ∧ (b = true → l1.length ≤ 6 ∧ ∀ x ∈ l1, Small x) := by
  obtain ⟨b, hb, hB⟩ := few02_l0 l1 h1 h2 7 0 (by omega) (by omega) (by omega) (fun j x hj => by omega)
  exact ⟨b, fun k hk => hb k (by omega), hB⟩
theorem small_ok {l : List (List ByteArray)} (h1 : l.length ≤ 6) (h2 : ∀ x ∈ l, Small x) : okF l :=
  ⟨by omega, fun x hx => ⟨by have := (h2 x hx).1; omega, fun s hs => by have := (h2 x hx).2 s hs; omega⟩⟩

theorem ixG_at {l : List ByteArray} {s : ByteArray} {i : Nat} (hi : i < l.length) (h : l[i] = s) (hn : s ∉ l.take i) : ixG l s = i := by
  have e : l = l.take i ++ (l.drop i) := (List.take_append_drop i l).symm
  rw [e, ixG_not _ _ _ hn, List.drop_eq_getElem_cons hi, ixG, if_pos h]
  simp; omega
theorem id_l0 (l : List ByteArray) (s : ByteArray) (hl : l.length ≤ 1000000) (d : Nat) : ∀ (i k : Nat), i ≤ l.length → l.length - i = d → d < k → s ∉ l.take i →
    sennitref02_Id.l0 k l s (i : Int) = some (addG l s, (ixG l s : Int)) := by
  induction d with
  | zero =>
    intro i k hi hd hk hn
    obtain ⟨k, rfl⟩ : ∃ m, k = m + 1 := ⟨k - 1, by omega⟩
    have hn2 : s ∉ l := by rwa [List.take_of_length_le (by omega)] at hn
    rw [sennitref02_Id.l0, if_neg (by omega), Option.bind_some, if_pos (by simp; omega), Option.bind_some, if_pos (by simp; omega), ixG_len l s hn2, addG, if_neg hn2]
    rfl
  | succ d ih =>
    intro i k hi hd hk hn
    obtain ⟨k, rfl⟩ : ∃ m, k = m + 1 := ⟨k - 1, by omega⟩
    have hlt : i < l.length := by omega
    rw [sennitref02_Id.l0, if_pos (by omega), if_pos (by omega), rdOf_get _ _ _ hlt]
    by_cases h : l[i] = s
    · rw [if_pos (by rw [h]), ixG_at hlt h hn, addG, if_pos (by rw [← h]; exact List.getElem_mem hlt)]
    · rw [if_neg (fun e => h (bytes_ext _ _ e)), wrap_succ hlt (by omega)]
      refine ih (i + 1) k (by omega) (by omega) (by omega) ?_
      rw [take_one (List.getElem?_eq_getElem hlt), List.mem_append, not_or]
      exact ⟨hn, fun e => h (List.mem_singleton.1 e).symm⟩
theorem id_f (l : List ByteArray) (s : ByteArray) (hl : l.length ≤ 1000000) (k : Nat) (hk : l.length < k) : sennitref02_Id.f k l s = some (addG l s, (ixG l s : Int)) :=
  id_l0 l s hl l.length 0 k (by omega) (by omega) hk (by simp)
theorem all_l1 (x0 : List (List ByteArray)) (i : Nat) (hi : i < x0.length) (hx : x0.length ≤ 6) (l : List ByteArray) (hl : x0[i] = l) (hl20 : l.length ≤ 20) (out : List (List Int)) (ho : out.length ≤ 100) (r : List (List Int)) (K : Nat) (hK : 1000 ≤ K) (d : Nat) :
    ∀ (j : Nat) (xs : List ByteArray) (ids : List Int), j ≤ l.length → l.length - j = d → xs.length ≤ 500 + j → ids.length ≤ j →
    (∀ k, K ≤ k → sennitref02_All.l0 k x0 (out ++ [(numL xs (l.drop j) ids).2]) (numL xs (l.drop j) ids).1 ((i + 1 : Nat) : Int) = some r) →
    ∀ k, K + d + 1 ≤ k → sennitref02_All.l1 k x0 out xs (i : Int) ids (j : Int) = some r := by
  induction d with
  | zero =>
    intro j xs ids hj hd hxs hids hs k hk
    obtain ⟨k, rfl⟩ : ∃ m, k = m + 1 := ⟨k - 1, by omega⟩
    rw [sennitref02_All.l1, if_pos (by omega), if_pos (by omega), rdL1 _ _ hi, hl, if_neg (by omega), if_pos (by omega), wrap_succ hi (by omega)]
    have := hs k (by omega)
    rwa [List.drop_of_length_le (by omega)] at this
  | succ d ih =>
    intro j xs ids hj hd hxs hids hs k hk
    obtain ⟨k, rfl⟩ : ∃ m, k = m + 1 := ⟨k - 1, by omega⟩
    have hlt : j < l.length := by omega
    rw [sennitref02_All.l1, if_pos (by omega), if_pos (by omega), rdL1 _ _ hi, hl, if_pos (by omega), if_pos (by omega), rdOf_get _ _ _ hlt, id_f _ _ (by omega) k (by omega), Option.bind_some, if_pos (by omega), wrap_succ hlt (by omega)]
    have ha := addG_len xs l[j]
    refine ih (j + 1) _ _ (by omega) (by omega) (by dsimp only; omega) (by simp; omega) ?_ k (by omega)
    rw [List.drop_eq_getElem_cons hlt] at hs
    exact hs
theorem all_l0 (x0 : List (List ByteArray)) (hx : x0.length ≤ 6) (hs : ∀ x ∈ x0, x.length ≤ 20) (d : Nat) :
    ∀ (i : Nat) (xs : List ByteArray) (out : List (List Int)), i ≤ x0.length → x0.length - i = d → out.length = i → xs.length ≤ 20 * i →
    ∀ k, 1001 + 30 * d ≤ k → sennitref02_All.l0 k x0 out xs (i : Int) = some (numA xs (x0.drop i) out).2 := by
  induction d with
  | zero =>
    intro i xs out hi hd ho hxs k hk
    obtain ⟨k, rfl⟩ : ∃ m, k = m + 1 := ⟨k - 1, by omega⟩
    rw [sennitref02_All.l0, if_neg (by omega), List.drop_of_length_le (by omega), numA]
  | succ d ih =>
    intro i xs out hi hd ho hxs k hk
    obtain ⟨k, rfl⟩ : ∃ m, k = m + 1 := ⟨k - 1, by omega⟩
    have hlt : i < x0.length := by omega
    have h20 := hs _ (List.getElem_mem hlt)
    have hn := (numL_len x0[i] xs []).1
    rw [sennitref02_All.l0, if_pos (by omega), List.drop_eq_getElem_cons hlt, numA]
    refine all_l1 x0 i hlt hx x0[i] rfl h20 out (by omega) _ (1001 + 30 * d) (by omega) x0[i].length 0 xs [] (by omega) (by omega) (by omega) (by simp) ?_ k (by omega)
    intro k2 hk2
    rw [List.drop_zero]
    exact ih (i + 1) _ _ (by omega) (by omega) (by simp [ho]) (by omega) k2 hk2
theorem refAll_f (x0 : List (List ByteArray)) (hx : x0.length ≤ 6) (hs : ∀ x ∈ x0, x.length ≤ 20) (k : Nat) (hk : 2000 ≤ k) : sennitref02_All.f k x0 = some (numA [] x0 []).2 := by
  have := all_l0 x0 hx hs x0.length 0 [] [] (by omega) (by omega) rfl (by simp) k (by omega)
  rwa [List.drop_zero] at this
theorem numA_rows : ∀ (fs : List (List ByteArray)) (xs : List ByteArray) (out : List (List Int)), ∀ r ∈ (numA xs fs out).2, r ∈ out ∨ ∃ l ∈ fs, r.length = l.length := by
  intro fs
  induction fs with
  | nil => intro xs out r hr; exact .inl hr
  | cons a t ih =>
    intro xs out r hr
    rcases ih _ _ r hr with h | ⟨l, hl, e⟩
    · rcases List.mem_append.1 h with h | h
      · exact .inl h
      · rw [List.mem_singleton.1 h]
        exact .inr ⟨a, List.mem_cons_self .., by rw [(numL_len a xs []).2]; simp⟩
    · exact .inr ⟨l, List.mem_cons_of_mem _ hl, e⟩
theorem rdL5 (xs : List (List Int)) (i : Nat) (h : i < xs.length) : rd_L5 xs (i : Int) = xs[i] := by
  simp [rd_L5, List.getD_eq_getElem?_getD, h]
theorem rd_get (l : List Int) (i : Nat) (h : i < l.length) : rd l (i : Int) = l[i] := by
  simp [rd, List.getD_eq_getElem?_getD, h]
theorem sameI_l0 (a : List Int) (hm : a.length ≤ 1000000) (d : Nat) : ∀ (i k : Nat), i ≤ a.length → a.length - i = d → d < k → sennitref02_Same.l0 k a a (i : Int) = some true := by
  induction d with
  | zero =>
    intro i k hi hd hk
    obtain ⟨k, rfl⟩ : ∃ m, k = m + 1 := ⟨k - 1, by omega⟩
    rw [sennitref02_Same.l0, if_neg (by omega)]
  | succ d ih =>
    intro i k hi hd hk
    obtain ⟨k, rfl⟩ : ∃ m, k = m + 1 := ⟨k - 1, by omega⟩
    have hlt : i < a.length := by omega
    rw [sennitref02_Same.l0, if_pos (by omega), if_pos (by omega), if_pos (by omega), if_pos rfl, wrap_succ hlt (by omega)]
    exact ih (i + 1) k (by omega) (by omega) (by omega)
theorem sameI_f (a : List Int) (hm : a.length ≤ 1000000) (k : Nat) (hk : a.length < k) : sennitref02_Same.f k a a = some true := by
  unfold sennitref02_Same.f
  rw [if_pos rfl]
  exact sameI_l0 a hm a.length 0 k (by omega) (by omega) hk
end Go.Proofs.Ytbhfenpccccloaa.Pure
