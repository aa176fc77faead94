/- What the functions of layer 15 tell, with rounds enough. Plain Lean. -/
import Derived.Test.YtbhfenpccccloaaPC01
import Derived.Test.YtbhfenpccccloaaF18
import Derived.Test.YtbhfenpccccloaaF22
import Derived.Test.YtbhfenpccccloaaF24
import Derived.Test.YtbhfenpccccloaaF25
import Derived.Test.YtbhfenpccccloaaF27
namespace Go.Proofs.Ytbhfenpccccloaa.Pure
open Go.RowKit Go.Proofs.Ytbhfenpccccloaa.M Go.Proofs.Ytbhfenpccccloaa.Hand Go.Proofs.YtbhfenpccccloaaW.PrintWords Go.Proofs.YtbhfenpccccloaaW.PrintLast Go.Proofs.YtbhfenpccccloaaW.PrintMore
set_option linter.unusedVariables false

abbrev endB : ByteArray := ⟨#[46, 10]⟩

theorem begins_f (s : ByteArray) : sennitref15_begins.f s = some (dotB s) := by
  unfold sennitref15_begins.f dotB
  by_cases h : (s.size : Int) > 0
  · rw [if_pos h, if_pos h]
    cases s with
    | mk a => cases a with
      | mk l => cases l with
        | nil => simp [ByteArray.size] at h
        | cons c l =>
          congr 1
          have : bt ⟨⟨c :: l⟩⟩ 0 = (c.toNat : Int) := by unfold bt; rw [dif_pos (by show 0 < (c :: l).length; simp)]; rfl
          rw [this]
          show ((c.toNat : Int) == 46) = (c == 46)
          rw [Bool.eq_iff_iff, beq_iff_eq, beq_iff_eq]
          exact ⟨fun h => UInt8.toNat_inj.1 (by show c.toNat = 46; omega), fun h => by rw [h]; rfl⟩
  · rw [if_neg h]
    cases s with
    | mk a => cases a with
      | mk l => cases l with
        | nil => rfl
        | cons c l => simp [ByteArray.size] at h

theorem dotted_l0 (l : List ByteArray) (hl : l.length ≤ 9223372036854775807) (d : Nat) : ∀ (i k : Nat), i ≤ l.length → l.length - i = d → d < k →
    sennitref15_Dotted.l0 k l (i : Int) = some ((l.drop i).any dotB) := by
  induction d with
  | zero =>
    intro i k hi hd hk
    obtain ⟨k, rfl⟩ : ∃ m, k = m + 1 := ⟨k - 1, by omega⟩
    rw [sennitref15_Dotted.l0, if_neg (by omega), List.drop_of_length_le (by omega)]
    rfl
  | succ d ih =>
    intro i k hi hd hk
    obtain ⟨k, rfl⟩ : ∃ m, k = m + 1 := ⟨k - 1, by omega⟩
    have hlt : i < l.length := by omega
    rw [sennitref15_Dotted.l0, if_pos (by omega), if_pos (by omega), rdOf_get _ _ _ hlt, begins_f, Option.bind_some, wrap_succ hlt hl, ih (i + 1) k (by omega) (by omega) (by omega), List.drop_eq_getElem_cons hlt, List.any_cons]
    cases dotB l[i] <;> simp
theorem dottedL_f (l : List ByteArray) (hl : l.length ≤ 9223372036854775807) (k : Nat) (hk : l.length < k) : sennitref15_Dotted.f k l = some (l.any dotB) := by
  have := dotted_l0 l hl l.length 0 k (by omega) (by omega) hk
  simpa [sennitref15_Dotted.f] using this

theorem block_l0 (l : List ByteArray) (hl : l.length ≤ 1000000) (hs : ∀ s ∈ l, s.size ≤ 1000000) (d : Nat) : ∀ (i k : Nat) (acc : List ByteArray), i ≤ l.length → l.length - i = d → d < k → acc.length = i →
    sennitref15_Block.l0 k l acc (i : Int) = some (acc ++ (l.drop i).map blk ++ [endB]) := by
  induction d with
  | zero =>
    intro i k acc hi hd hk ha
    obtain ⟨k, rfl⟩ : ∃ m, k = m + 1 := ⟨k - 1, by omega⟩
    rw [sennitref15_Block.l0, if_neg (by omega), if_pos (by omega), List.drop_of_length_le (by omega)]
    simp
  | succ d ih =>
    intro i k acc hi hd hk ha
    obtain ⟨k, rfl⟩ : ∃ m, k = m + 1 := ⟨k - 1, by omega⟩
    have hlt : i < l.length := by omega
    have hsz := hs l[i] (List.getElem_mem hlt)
    rw [sennitref15_Block.l0, if_pos (by omega), if_pos (by omega), rdOf_get _ _ _ hlt, begins_f, Option.bind_some, wrap_succ hlt (by omega), List.drop_eq_getElem_cons hlt, List.map_cons]
    cases h : dotB l[i] with
    | true =>
      rw [if_pos rfl, if_pos (by omega), if_pos (by omega), ih (i + 1) k _ (by omega) (by omega) (by omega) (by simp [ha])]
      simp [blk, h]
    | false =>
      rw [if_neg (by decide), if_pos (by omega), ih (i + 1) k _ (by omega) (by omega) (by omega) (by simp [ha])]
      simp [blk, h]
theorem block_f (l : List ByteArray) (hl : l.length ≤ 1000000) (hs : ∀ s ∈ l, s.size ≤ 1000000) (k : Nat) (hk : l.length < k) : sennitref15_Block.f k l = some (l.map blk ++ [endB]) := by
  have := block_l0 l hl hs l.length 0 k [] (by omega) (by omega) hk rfl
  simpa [sennitref15_Block.f] using this
theorem strip_l0 (l : List ByteArray) (hl : l.length ≤ 1000000) (d : Nat) : ∀ (i k : Nat) (acc : List ByteArray), i ≤ l.length → l.length - i = d → d < k → acc.length = i →
    sennitref15_Strip.l0 k l acc (i : Int) = some (acc ++ (l.drop i).map unb) := by
  induction d with
  | zero =>
    intro i k acc hi hd hk ha
    obtain ⟨k, rfl⟩ : ∃ m, k = m + 1 := ⟨k - 1, by omega⟩
    rw [sennitref15_Strip.l0, if_neg (by omega), List.drop_of_length_le (by omega)]
    simp
  | succ d ih =>
    intro i k acc hi hd hk ha
    obtain ⟨k, rfl⟩ : ∃ m, k = m + 1 := ⟨k - 1, by omega⟩
    have hlt : i < l.length := by omega
    rw [sennitref15_Strip.l0, if_pos (by omega), if_pos (by omega), rdOf_get _ _ _ hlt, begins_f, Option.bind_some, wrap_succ hlt (by omega), List.drop_eq_getElem_cons hlt, List.map_cons]
    cases h : dotB l[i] with
    | true =>
      have := dotB_pos h
      rw [if_pos rfl, if_pos (by omega), if_pos (by omega), ih (i + 1) k _ (by omega) (by omega) (by omega) (by simp [ha])]
      simp [unb, h]
    | false =>
      rw [if_neg (by decide), if_pos (by omega), ih (i + 1) k _ (by omega) (by omega) (by omega) (by simp [ha])]
      simp [unb, h]
theorem strip_f (l : List ByteArray) (hl : l.length ≤ 1000000) (k : Nat) (hk : l.length < k) : sennitref15_Strip.f k l = some (l.map unb) := by
  have := strip_l0 l hl l.length 0 k [] (by omega) (by omega) hk rfl
  simpa [sennitref15_Strip.f] using this

/-- What stands ahead of the first end, and how many lines that takes. -/
def unbl : List ByteArray → Option (List ByteArray)
  | [] => none
  | s :: l => if s = endB then some [] else (unbl l).map (s :: ·)
def unblR (o : Option (List ByteArray)) (acc : List ByteArray) (i : Nat) : List ByteArray × Int := match o with
  | none => ([], 0)
  | some t => (acc ++ t, ((i + t.length + 1 : Nat) : Int))
theorem end_iff (s : ByteArray) : s.toList = ([46, 10] : List UInt8) ↔ s = endB := by
  have : endB.toList = [46, 10] := by rw [ByteArray.toList_eq]
  rw [← this]
  exact bytes_toList_inj _ _
theorem unblock_l0 (l : List ByteArray) (hl : l.length ≤ 1000000) (d : Nat) : ∀ (i k : Nat) (acc : List ByteArray), i ≤ l.length → l.length - i = d → d < k → acc.length = i →
    dots_Unblock.l0 k l acc (l.length : Int) (i : Int) = some (unblR (unbl (l.drop i)) acc i) := by
  induction d with
  | zero =>
    intro i k acc hi hd hk ha
    obtain ⟨k, rfl⟩ : ∃ m, k = m + 1 := ⟨k - 1, by omega⟩
    rw [dots_Unblock.l0, if_neg (by omega), List.drop_of_length_le (by omega)]
    rfl
  | succ d ih =>
    intro i k acc hi hd hk ha
    obtain ⟨k, rfl⟩ : ∃ m, k = m + 1 := ⟨k - 1, by omega⟩
    have hlt : i < l.length := by omega
    rw [dots_Unblock.l0, if_pos (by omega), if_pos (by omega), if_pos (by omega), rdOf_get _ _ _ hlt, wrap_succ hlt (by omega), List.drop_eq_getElem_cons hlt]
    by_cases h : l[i] = endB
    · rw [if_pos ((end_iff _).2 h)]
      simp [unbl, unblR, h]
    · rw [if_neg (fun e => h ((end_iff _).1 e)), if_pos (by omega), ih (i + 1) k _ (by omega) (by omega) (by omega) (by simp [ha])]
      cases hu : unbl (l.drop (i + 1)) with
      | none => simp [unbl, unblR, h, hu]
      | some t => simp [unbl, unblR, h, hu]; omega
theorem unblock_f (l : List ByteArray) (hl : l.length ≤ 1000000) (k : Nat) (hk : l.length < k) : dots_Unblock.f k l = some (unblR (unbl l) [] 0) := by
  have := unblock_l0 l hl l.length 0 k [] (by omega) (by omega) hk rfl
  simpa [dots_Unblock.f] using this
theorem refUnblock_l0 (l : List ByteArray) (hl : l.length ≤ 1000000) (d : Nat) : ∀ (i k : Nat), i ≤ l.length → l.length - i = d → d < k →
    sennitref15_Unblock.l0 k l (i : Int) = some (unblR (unbl (l.drop i)) (l.take i) i) := by
  induction d with
  | zero =>
    intro i k hi hd hk
    obtain ⟨k, rfl⟩ : ∃ m, k = m + 1 := ⟨k - 1, by omega⟩
    rw [sennitref15_Unblock.l0, if_neg (by omega), List.drop_of_length_le (by omega)]
    rfl
  | succ d ih =>
    intro i k hi hd hk
    obtain ⟨k, rfl⟩ : ∃ m, k = m + 1 := ⟨k - 1, by omega⟩
    have hlt : i < l.length := by omega
    rw [sennitref15_Unblock.l0, if_pos (by omega), if_pos (by omega), rdOf_get _ _ _ hlt, wrap_succ hlt (by omega), List.drop_eq_getElem_cons hlt]
    by_cases h : l[i] = endB
    · rw [if_pos ((end_iff _).2 h), if_pos (by omega), Int.toNat_natCast]
      simp [unbl, unblR, h]
    · rw [if_neg (fun e => h ((end_iff _).1 e)), ih (i + 1) k (by omega) (by omega) (by omega), take_snoc l i l[i] (List.getElem?_eq_getElem hlt)]
      cases hu : unbl (l.drop (i + 1)) with
      | none => simp [unbl, unblR, h, hu]
      | some t =>
        have e : i + 1 + t.length + 1 = i + (t.length + 1) + 1 := by omega
        simp only [unbl, if_neg h, hu, Option.map_some, unblR, List.length_cons, List.append_assoc, List.singleton_append, e]
theorem refUnblock_f (l : List ByteArray) (hl : l.length ≤ 1000000) (k : Nat) (hk : l.length < k) : sennitref15_Unblock.f k l = some (unblR (unbl l) [] 0) := by
  have := refUnblock_l0 l hl l.length 0 k (by omega) (by omega) hk
  simpa [sennitref15_Unblock.f] using this

theorem Block_f (l : List ByteArray) (hl : l.length ≤ 1000000) (hs : ∀ s ∈ l, s.size ≤ 1000000) (k : Nat) : dots_Block.f k l = some (l.map blk ++ [endB], l.any dotB) := by
  unfold dots_Block.f
  rw [if_pos ⟨List.all_eq_true.2 fun s h => by have := hs s h; exact decide_eq_true (by omega), by omega⟩]
theorem Strip_f (l : List ByteArray) (hl : l.length ≤ 1000000) (hs : ∀ s ∈ l, s.size ≤ 1000002) (k : Nat) : dots_Strip.f k l = some (l.map unb, l.any dotB) := by
  unfold dots_Strip.f
  rw [if_pos ⟨List.all_eq_true.2 fun s h => by have := hs s h; exact decide_eq_true (by omega), by omega⟩]
theorem blk_size (s : ByteArray) : (blk s).size ≤ s.size + 1 := by
  unfold blk; split
  · rw [ByteArray.size_append]; show 1 + s.size ≤ _; omega
  · omega
theorem blk_ne_end (s : ByteArray) : blk s ≠ endB := by
  intro h
  unfold blk at h
  cases hd : dotB s with
  | true =>
    rw [hd, if_pos rfl] at h
    have h2 := congrArg (fun b : ByteArray => b.data.toList) h
    simp at h2
    have : dotB s = false := by unfold dotB; rw [h2]; decide
    rw [this] at hd; cases hd
  | false =>
    rw [hd, if_neg (by decide)] at h
    rw [h] at hd
    revert hd; decide
theorem unbl_blocked (l m : List ByteArray) : unbl (l.map blk ++ endB :: m) = some (l.map blk) := by
  induction l with
  | nil => simp [unbl]
  | cons s l ih => simp [unbl, blk_ne_end, ih]
theorem dotB_blk (s : ByteArray) : dotB (blk s) = dotB s := by
  unfold blk
  cases hd : dotB s with
  | true => rw [if_pos rfl]; simp [dotB]
  | false => rw [if_neg (by decide)]; exact hd
theorem unb_blk (s : ByteArray) : unb (blk s) = s := by
  have h := dotB_blk s
  unfold unb
  rw [h]
  cases hd : dotB s with
  | true =>
    rw [if_pos rfl]
    unfold blk
    rw [hd, if_pos rfl]
    exact ByteArray.extract_append_eq_right rfl (ByteArray.size_append ..)
  | false => rw [if_neg (by decide)]; unfold blk; rw [hd, if_neg (by decide)]
theorem map_unb_blk (l : List ByteArray) : (l.map blk).map unb = l := by
  rw [List.map_map]; conv => rhs; rw [← List.map_id l]
  exact List.map_congr_left fun s _ => unb_blk s
theorem any_blk (l : List ByteArray) : (l.map blk).any dotB = l.any dotB := by
  rw [List.any_map]; congr 1; funext s; exact dotB_blk s
theorem map_blk_of_none (l : List ByteArray) (h : l.any dotB = false) : l.map blk = l := by
  conv => rhs; rw [← List.map_id l]
  refine List.map_congr_left fun s hs => ?_
  have := List.any_eq_false.1 h s hs
  unfold blk; rw [if_neg this]; rfl

theorem awake15 (k : Nat) (hk : 10 ≤ k) : sennitlaw15_awake.f k = some true := by
  unfold sennitlaw15_awake.f
  rw [Block_f _ (by decide) (by decide), Option.bind_some, unblock_f _ (by simp) k (by simp; omega), Option.bind_some]
  have e1 : ([(⟨#[46, 97, 10]⟩ : ByteArray), (⟨#[98, 10]⟩ : ByteArray)] : List ByteArray).map blk ++ [endB] = [⟨#[46, 46, 97, 10]⟩, ⟨#[98, 10]⟩, endB] := by decide
  have e2 : unblR (unbl [⟨#[46, 46, 97, 10]⟩, ⟨#[98, 10]⟩, endB]) [] 0 = ([⟨#[46, 46, 97, 10]⟩, ⟨#[98, 10]⟩], 3) := by decide
  rw [e1, e2]
  rw [Strip_f _ (by decide) (by decide), Option.bind_some]
  simp only []
  simp [ByteArray.toList_eq, rdOf]
  decide
end Go.Proofs.Ytbhfenpccccloaa.Pure
