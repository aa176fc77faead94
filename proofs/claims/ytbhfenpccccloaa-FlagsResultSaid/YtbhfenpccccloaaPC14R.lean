/- What the reference's Result tells. Plain Lean. -/
import Derived.Test.YtbhfenpccccloaaPC14
import Derived.Test.YtbhfenpccccloaaF15
namespace Go.Proofs.Ytbhfenpccccloaa.Pure
open Go.RowKit Go.Proofs.Ytbhfenpccccloaa.M Go.Proofs.Ytbhfenpccccloaa.Hand Go.Proofs.YtbhfenpccccloaaW.PrintWords Go.Proofs.YtbhfenpccccloaaW.PrintLast Go.Proofs.YtbhfenpccccloaaW.PrintMore
set_option linter.unusedVariables false
set_option linter.unusedSimpArgs false

theorem mark_step (k : Nat) (s ah : ByteArray) (l : List ByteArray) (acc : ByteArray) (i : Nat) (hs : s.size = 1) (ha : acc.size ≤ 100) (hi : i < 7) :
    sennitref12_Mark.l0 (k + 1) s 7 l ah acc (i : Int) = sennitref12_Mark.l0 k s 7 l ah (acc ++ s) ((i + 1 : Nat) : Int) := by
  rw [sennitref12_Mark.l0, if_pos (by omega), if_pos (by omega), wrap_succ (n := 100) (by omega) (by omega)]
theorem mark_end (k : Nat) (s ah : ByteArray) (l : List ByteArray) (acc : ByteArray) (hl : okL l) (ha : acc.size ≤ 100) (hh : ah.size ≤ 100) :
    sennitref12_Mark.l0 (k + 1) s 7 l ah acc 7 = some (markB (openG l) acc ah) := by
  have e1 : (⟨#[33]⟩ : ByteArray).size = 1 := rfl
  rw [sennitref12_Mark.l0, if_neg (by omega), (open_f l hl).2, Option.bind_some]
  unfold markB
  cases openG l with
  | true => rw [if_pos rfl, if_pos (by omega), if_pos (by rw [ByteArray.size_append]; omega), if_pos (by rw [ByteArray.size_append, ByteArray.size_append]; omega), if_pos rfl]
  | false => rw [if_neg (by decide), if_pos (by omega), if_pos (by rw [ByteArray.size_append]; omega), if_neg (by decide)]
def seven (s : ByteArray) : ByteArray := ((((((⟨#[]⟩ ++ s) ++ s) ++ s) ++ s) ++ s) ++ s) ++ s
theorem mark_f (k : Nat) (s ah : ByteArray) (l : List ByteArray) (hl : okL l) (hs : s.size = 1) (hh : ah.size ≤ 100) (hk : 20 ≤ k) : sennitref12_Mark.f k s 7 l ah = some (markB (openG l) (seven s) ah) := by
  obtain ⟨k, rfl⟩ : ∃ q, k = q + 8 := ⟨k - 8, by omega⟩
  have e0 : (⟨#[]⟩ : ByteArray).size = 0 := rfl
  unfold sennitref12_Mark.f
  have st := fun acc i ha hi k => mark_step k s ah l acc i hs ha hi
  rw [show (0 : Int) = ((0 : Nat) : Int) from rfl, st _ 0 (by omega) (by omega), st _ 1 (by simp only [ByteArray.size_append]; omega) (by omega), st _ 2 (by simp only [ByteArray.size_append]; omega) (by omega), st _ 3 (by simp only [ByteArray.size_append]; omega) (by omega), st _ 4 (by simp only [ByteArray.size_append]; omega) (by omega), st _ 5 (by simp only [ByteArray.size_append]; omega) (by omega), st _ 6 (by simp only [ByteArray.size_append]; omega) (by omega)]
  exact mark_end k s ah l _ hl (by simp only [ByteArray.size_append]; omega) hh
theorem ended_f (l : List ByteArray) (hl : okL l) : sennitref12_Ended.f l = some (listB [] l (openG l)) := by
  have hlen := hl.1
  unfold sennitref12_Ended.f
  rw [Option.bind_some, if_pos (by simp; omega), Option.bind_some, (open_f l hl).2, Option.bind_some]
  cases hb : openG l with
  | false => rw [if_neg (by decide)]; rfl
  | true =>
    have hpos := openG_pos l hb
    have hw : wrap64 ((([] ++ l : List ByteArray).length : Int) - 1) = ((([] ++ l : List ByteArray).length - 1 : Nat) : Int) := by
      simp only [List.nil_append]; unfold wrap64; omega
    have hlt : ([] ++ l : List ByteArray).length - 1 < ([] ++ l : List ByteArray).length := by simp only [List.nil_append]; omega
    have hsz : (rdOf ByteArray.empty ([] ++ l) ((([] ++ l : List ByteArray).length - 1 : Nat) : Int)).size ≤ 1000 := by
      rw [rdOf_get _ _ _ hlt]
      exact hl.2 _ (by simp)
    rw [if_pos rfl, hw, if_pos (by omega), if_pos (by omega), if_pos (by omega), Int.toNat_natCast]
    unfold listB
    rw [if_pos rfl]
theorem listB_split (o l : List ByteArray) : listB o l (openG l) = o ++ listB [] l (openG l) := by
  cases hb : openG l with
  | false => simp [listB]
  | true =>
    have hpos := openG_pos l hb
    unfold listB
    rw [if_pos rfl, if_pos rfl]
    have hlt : (o ++ l).length - 1 < (o ++ l).length := by simp; omega
    have hlt2 : ([] ++ l : List ByteArray).length - 1 < ([] ++ l : List ByteArray).length := by simp only [List.nil_append]; omega
    have e : (o ++ l)[(o ++ l).length - 1] = ([] ++ l : List ByteArray)[([] ++ l : List ByteArray).length - 1] := by
      rw [List.getElem_append_right (by simp; omega)]
      simp only [List.nil_append]
      congr 1
      simp; omega
    rw [rdOf_get _ _ _ hlt, rdOf_get _ _ _ hlt2, e, List.set_append_right _ _ (by simp; omega)]
    simp only [List.nil_append]
    congr 2
    simp; omega
theorem resultR_f (a0 : Int) (h0 : 0 ≤ a0) (h255 : a0 ≤ 255) (l1 l2 l3 : List ByteArray) (h1 : l1.length ≤ 16 ∧ ∀ s ∈ l1, s.size ≤ 100) (h2 : l2.length ≤ 16 ∧ ∀ s ∈ l2, s.size ≤ 100) (h3 : l3.length ≤ 16 ∧ ∀ s ∈ l3, s.size ≤ 100) (k : Nat) (hk : 60 ≤ k) :
    sennitref14_Result.f k a0 l1 l2 l3 = some (resultG a0 l1 l2 l3) := by
  have ok : ∀ l : List ByteArray, (l.length ≤ 16 ∧ ∀ s ∈ l, s.size ≤ 100) → okL l := fun l h => ⟨by omega, fun s hs => by have := h.2 s hs; omega⟩
  have o0 : okL [] := ⟨by simp, fun s hs => by cases hs⟩
  have o1 := ok l1 h1
  have o2 := ok l2 h2
  have o3 := ok l3 h3
  have g0 : openG [] = false := rfl
  have L1 := listB_len [] l1 (openG l1)
  have L2 := listB_len [] l2 (openG l2)
  have L3 := listB_len [] l3 (openG l3)
  simp only [List.length_nil, Nat.zero_add] at L1 L2 L3
  have m1 : seven ⟨#[60]⟩ = oursM := by decide +kernel
  have m2 : seven ⟨#[124]⟩ = oldM := by decide +kernel
  have m3 : seven ⟨#[61]⟩ = eqM := by decide +kernel
  have m4 : seven ⟨#[62]⟩ = endM := by decide +kernel
  unfold sennitref14_Result.f resultG
  rw [kindR_f l1 l2 l3 (by omega) (by omega) k (by omega), Option.bind_some, doesR_f a0 _ k (by omega), Option.bind_some]
  by_cases d0 : doesG a0 (kindG l1 l2 l3) = 0
  · rw [if_pos d0, if_pos d0]
  rw [if_neg d0, if_neg d0]
  by_cases d1 : doesG a0 (kindG l1 l2 l3) = 1
  · rw [if_pos d1, if_pos d1]
  rw [if_neg d1, if_neg d1]
  rw [mark_f k _ _ [] o0 rfl (by decide) (by omega), Option.bind_some, Option.bind_some, ended_f l1 o1, Option.bind_some, if_pos (by simp; omega), Option.bind_some]
  unfold bracketG br3 br2 op2
  by_cases d3 : doesG a0 (kindG l1 l2 l3) = 3
  · rw [if_pos d3, if_pos d3, if_pos d3, mark_f k _ _ l1 o1 rfl (by decide) (by omega), Option.bind_some, if_pos (by simp; omega), Option.bind_some, ended_f l2 o2, Option.bind_some, if_pos (by simp; omega), Option.bind_some, mark_f k _ _ l2 o2 rfl (by decide) (by omega), Option.bind_some, if_pos (by simp; omega), Option.bind_some, ended_f l3 o3, Option.bind_some, if_pos (by simp; omega), Option.bind_some, mark_f k _ _ l3 o3 rfl (by decide) (by omega), Option.bind_some, if_pos (by simp; omega), m1, m2, m3, m4, g0]
    have eb : br1 l1 = ([] ++ [markB false oursM mineW]) ++ listB [] l1 (openG l1) := listB_split _ l1
    rw [listB_split (listB (br1 l1 ++ [markB (openG l1) oldM oldW]) l2 (openG l2) ++ [markB (openG l2) eqM eqW]) l3, listB_split (br1 l1 ++ [markB (openG l1) oldM oldW]) l2, eb]
    simp only [List.append_assoc, List.nil_append]
  · rw [if_neg d3, if_neg d3, if_neg d3, mark_f k _ _ l1 o1 rfl (by decide) (by omega), Option.bind_some, if_pos (by simp; omega), Option.bind_some, ended_f l3 o3, Option.bind_some, if_pos (by simp; omega), Option.bind_some, mark_f k _ _ l3 o3 rfl (by decide) (by omega), Option.bind_some, if_pos (by simp; omega), m1, m3, m4, g0]
    have eb : br1 l1 = ([] ++ [markB false oursM mineW]) ++ listB [] l1 (openG l1) := listB_split _ l1
    rw [listB_split (br1 l1 ++ [markB (openG l1) eqM eqW]) l3, eb]
    simp only [List.append_assoc, List.nil_append]
theorem flagG_le (a : Int) : 0 ≤ flagG a ∧ flagG a ≤ 255 := by unfold flagG; (repeat' split) <;> omega
end Go.Proofs.Ytbhfenpccccloaa.Pure
