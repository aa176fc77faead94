/- flags.bracket: what it computes, and that the machine's call does so. -/
import Derived.Test.YtbhfenpccccloaaH3
import Derived.Test.YtbhfenpccccloaaF68
namespace Go.Proofs.Ytbhfenpccccloaa.M
open Go.RowKit Go.Proofs Go.Proofs.Ytbhfenpccccloaa.Hand Go.Proofs.YtbhfenpccccloaaW.PrintWords Go.Proofs.YtbhfenpccccloaaW.PrintLast Go.Proofs.YtbhfenpccccloaaW.PrintMore
attribute [local go_sem] Oper.semAt_some
set_option linter.unusedVariables false
set_option linter.unusedSimpArgs false

/-- Lists that are not long, of texts that are not long. -/
def okL (l : List ByteArray) : Prop := l.length ≤ 1000 ∧ ∀ s ∈ l, s.size ≤ 1000
instance (l : List ByteArray) : Decidable (okL l) := inferInstanceAs (Decidable (_ ∧ _))
def openB (s : ByteArray) : Bool := if s.size = 0 then true else !(bt s ((s.size - 1 : Nat) : Int) == 10)
/-- Is the last text not ended? -/
def openG (l : List ByteArray) : Bool := match l.getLast? with | none => false | some s => openB s
theorem last_extract (d : Array UInt8) (h : 0 < d.size) : (d.extract (d.size - 1) d.size).toList = [d[d.size - 1]'(by omega)] := by
  apply List.ext_getElem
  · simp; omega
  · intro i h1 h2
    simp at h2
    subst h2
    simp
theorem bt_last (s : ByteArray) (h : 0 < s.size) : ((s.extract (s.size - 1) s.size).toList == (⟨#[10]⟩ : ByteArray).toList) = (bt s ((s.size - 1 : Nat) : Int) == 10) := by
  obtain ⟨d⟩ := s
  have h' : 0 < d.size := h
  rw [ByteArray.toList_eq, ByteArray.toList_eq, ByteArray.data_extract]
  show ((d.extract (d.size - 1) d.size).toList == ([10] : List UInt8)) = (bt ⟨d⟩ ((d.size - 1 : Nat) : Int) == 10)
  rw [last_extract d h']
  have hb : bt ⟨d⟩ ((d.size - 1 : Nat) : Int) = ((d[d.size - 1]'(by omega)).toNat : Int) := by
    unfold bt
    rw [dif_pos (show ((d.size - 1 : Nat) : Int).toNat < (⟨d⟩ : ByteArray).size from by rw [Int.toNat_natCast]; show d.size - 1 < d.size; omega)]
    rfl
  rw [hb, Bool.eq_iff_iff]
  simp only [beq_iff_eq, List.cons.injEq, and_true]
  constructor
  · intro h; rw [h]; rfl
  · intro h
    exact UInt8.toNat_inj.1 (by show _ = 10; omega)
theorem open_f (l : List ByteArray) (h : okL l) : lines_Open.f l = some (openG l) ∧ sennitref01_Open.f l = some (openG l) := by
  cases hl : l.getLast? with
  | none =>
    have : l = [] := by simpa using hl
    subst this
    exact ⟨rfl, rfl⟩
  | some s =>
    have hne : l ≠ [] := by intro e; subst e; simp at hl
    have hpos : 0 < l.length := List.length_pos_iff.2 hne
    have hmem : s ∈ l := List.mem_of_getLast? hl
    have hs := h.2 s hmem
    have hle := h.1
    have hw : wrap64 ((l.length : Int) - 1) = ((l.length - 1 : Nat) : Int) := by unfold wrap64; omega
    have hr : rdOf ByteArray.empty l ((l.length - 1 : Nat) : Int) = s := by
      rw [List.getLast?_eq_getElem?] at hl
      show l.getD (((l.length - 1 : Nat) : Int)).toNat ByteArray.empty = s
      rw [Int.toNat_natCast, List.getD_eq_getElem?_getD, hl]; rfl
    have hg : openG l = openB s := by unfold openG; rw [hl]
    rw [hg]
    have hw2 : 0 < s.size → wrap64 ((s.size : Int) - 1) = ((s.size - 1 : Nat) : Int) := fun _ => by unfold wrap64; omega
    refine ⟨?_, ?_⟩
    · unfold lines_Open.f openB
      rw [if_pos (by omega), hw, if_pos (by omega), if_pos (by omega), hr]
      unfold strings_HasSuffix.f stringslite_HasSuffix.f
      have hone : ((⟨#[10]⟩ : ByteArray).size : Int) = 1 := rfl
      by_cases h0 : s.size = 0
      · rw [if_neg (by rw [h0]; decide), if_pos h0]; rfl
      · rw [hone, if_pos (by omega), hw2 (by omega), if_pos (by omega), if_pos (by omega), if_neg h0, Int.toNat_natCast, bt_last s (by omega)]
        rfl
    · unfold sennitref01_Open.f openB
      rw [if_neg (by omega), hw, if_pos (by omega), if_pos (by omega), hr]
      by_cases h0 : s.size = 0
      · rw [if_pos (by omega), if_pos h0]
      · rw [if_neg (by omega), hw2 (by omega), if_pos (by omega), if_pos (by omega), if_neg h0]
        rfl

/-! bracket -/
abbrev oursM : ByteArray := ⟨#[60, 60, 60, 60, 60, 60, 60]⟩
abbrev mineW : ByteArray := ⟨#[32, 77, 73, 78, 69]⟩
abbrev oldM : ByteArray := ⟨#[124, 124, 124, 124, 124, 124, 124]⟩
abbrev oldW : ByteArray := ⟨#[32, 79, 76, 68, 69, 82]⟩
abbrev eqM : ByteArray := ⟨#[61, 61, 61, 61, 61, 61, 61]⟩
abbrev eqW : ByteArray := ⟨#[]⟩
abbrev endM : ByteArray := ⟨#[62, 62, 62, 62, 62, 62, 62]⟩
abbrev yoursW : ByteArray := ⟨#[32, 89, 79, 85, 82, 83]⟩
abbrev br1 (l1 : List ByteArray) : List ByteArray := listB ([] ++ [markB false oursM mineW]) l1 (openG l1)
def br2 (a0 : Int) (l1 l2 : List ByteArray) : List ByteArray := if a0 = 3 then listB (br1 l1 ++ [markB (openG l1) oldM oldW]) l2 (openG l2) else br1 l1
def op2 (a0 : Int) (l1 l2 : List ByteArray) : Bool := if a0 = 3 then openG l2 else openG l1
def br3 (a0 : Int) (l1 l2 l3 : List ByteArray) : List ByteArray := listB (br2 a0 l1 l2 ++ [markB (op2 a0 l1 l2) eqM eqW]) l3 (openG l3)
def bracketG (a0 : Int) (l1 l2 l3 : List ByteArray) : List ByteArray := br3 a0 l1 l2 l3 ++ [markB (openG l3) endM yoursW]
theorem listB_len (o l : List ByteArray) (b : Bool) : (listB o l b).length = o.length + l.length := by unfold listB; split <;> simp
theorem listB_sz (o l : List ByteArray) (b : Bool) (M : Nat) (h1 : ∀ s ∈ o, s.size ≤ M) (h2 : ∀ s ∈ l, s.size ≤ M) : ∀ s ∈ listB o l b, s.size ≤ M + 1 := by
  have h : ∀ s ∈ o ++ l, s.size ≤ M := fun s hs => (List.mem_append.1 hs).elim (h1 s) (h2 s)
  intro s hs
  unfold listB at hs
  split at hs
  · rcases List.mem_or_eq_of_mem_set hs with hs | rfl
    · have := h s hs; omega
    · rw [ByteArray.size_append]
      have hr : (rdOf ByteArray.empty (o ++ l) ((o ++ l).length - 1 : Nat)).size ≤ M := by
        show ((o ++ l).getD ((((o ++ l).length - 1 : Nat) : Int)).toNat ByteArray.empty).size ≤ M
        rw [Int.toNat_natCast, List.getD_eq_getElem?_getD]
        cases hq : (o ++ l)[(o ++ l).length - 1]? with
        | none => exact Nat.zero_le _
        | some x => exact h x (List.mem_of_getElem? hq)
      have : (⟨#[10]⟩ : ByteArray).size = 1 := rfl
      omega
  · have := h s hs; omega
theorem markB_sz (b : Bool) (s t : ByteArray) (hs : s.size ≤ 100) (ht : t.size ≤ 100) : (markB b s t).size ≤ 1000 := by
  unfold markB
  have e1 : (⟨#[10]⟩ : ByteArray).size = 1 := rfl
  have e2 : (⟨#[33]⟩ : ByteArray).size = 1 := rfl
  cases b <;> simp [ByteArray.size_append] <;> omega
end Go.Proofs.Ytbhfenpccccloaa.M
