/- dots.all, at its two pairs of functions: the loop. -/
import Derived.Test.YtbhfenpccccloaaF50
import Derived.Test.YtbhfenpccccloaaF51
import Derived.Test.YtbhfenpccccloaaF52
import Derived.Test.YtbhfenpccccloaaHand
namespace Go.Proofs.Ytbhfenpccccloaa.M
open Go.RowKit Go.Proofs.YtbhfenpccccloaaW.PrintWords Go.Proofs.YtbhfenpccccloaaW.PrintLast Go.Proofs.YtbhfenpccccloaaW.PrintMore Go.Proofs.Ytbhfenpccccloaa.Hand
set_option linter.unusedVariables false
set_option linter.unusedSimpArgs false

/-- Does a text begin with a point? -/
def dotB (s : ByteArray) : Bool := match s.data.toList with
  | c :: _ => c == 46
  | [] => false
theorem dotB_pos {s : ByteArray} (h : dotB s = true) : 1 ≤ s.size := by
  cases s with
  | mk a => cases a with
    | mk l => cases l with
      | nil => simp [dotB] at h
      | cons c l => simp [ByteArray.size]
theorem dotted_f (s : ByteArray) : dots_dotted.f s = some (dotB s) := by
  unfold dots_dotted.f strings_HasPrefix.f stringslite_HasPrefix.f
  have e1 : (⟨#[46]⟩ : ByteArray).size = 1 := rfl
  have e2 : (⟨#[46]⟩ : ByteArray).toList = [46] := by rw [ByteArray.toList_eq]
  rw [e1, e2]
  by_cases h : s.size ≥ 1
  · rw [if_pos (by omega), if_pos (by omega), if_pos (by omega)]
    simp only [Option.bind_some, ByteArray.toList_eq]
    congr 1
    rw [show ((1 : Nat) : Int).toNat = 1 from rfl]
    cases s with
    | mk a => cases a with
      | mk l => cases l with
        | nil => simp [ByteArray.size] at h
        | cons c l =>
          simp [dotB]
  · rw [if_neg (by omega)]
    simp only [Option.bind_some]
    congr 1
    cases hd : dotB s with
    | false => rfl
    | true => exact absurd (dotB_pos hd) h
/-- With a point ahead, where it begins with one; and without it. -/
def blk (s : ByteArray) : ByteArray := if dotB s = true then (⟨#[46]⟩ : ByteArray) ++ s else s
def unb (s : ByteArray) : ByteArray := if dotB s = true then s.extract 1 s.size else s
theorem any_snoc {α : Type} (p : α → Bool) (l : List α) (i : Nat) (x : α) (h : l[i]? = some x) : (l.take (i + 1)).any p = ((l.take i).any p || p x) := by
  rw [take_snoc l i x h]; simp

set_option maxHeartbeats 4000000 in
set_option maxRecDepth 100000 in
theorem all51_calls (A0 : Option Addr) (c0 : Nat) (l0 : List ByteArray) (w : World) (hr0 : Kd.C Kd.string w A0 l0.length l0) (hc0 : l0.length ≤ c0) (hsz : ∀ s ∈ l0, s.size + 1 ≤ 9223372036854775807) (hlen : l0.length ≤ 8796093022207) :
    Calls Try.prog 49 #[.slice A0 l0.length c0, .func (.func 50) #[] #[], .func (.func 51) #[] #[]] w fun e w' => ∃ v0_ : Value, e = .returned (.tuple #[v0_, .bool (l0.any dotB)]) ∧ Kd.R Kd.string 9 w' w.heap.size (fun _ => True) v0_ (l0.map blk) ∧ Below w.heap.size w w' := by
  have HR0 := Aside0.mk hr0
  have HC0 := Aside0.mk hc0
  have HL := Aside0.mk hr0.2.1
  have HSZ := Aside0.mk hsz
  have HLE := Aside0.mk hlen
  clear hr0 hc0 hsz hlen
  go_enter Try.func49, Try.ntmps49
  go_wp2
  repeat (go_quiet (fail); try go_wp2)
  go_loopg [8, 9, 14] l0.length (fun kq v8 v9 v14 wr => ∃ (i : Nat) (b : Bool), v9 = .bool b ∧ v14 = .int .i64 (i : Int) ∧ Aside0 (b = (l0.take i).any dotB) ∧ Aside0 (i ≤ l0.length ∧ kq = l0.length - i) ∧
    Aside0 (Kd.R Kd.string 9 wr w.heap.size (fun _ => True) v8 ((l0.take i).map blk)) ∧ Aside0 (Below w.heap.size w wr))
  case atStart => exact ⟨0, false, rfl, rfl, ⟨by simp⟩, ⟨Nat.zero_le _, rfl⟩, ⟨Kd.R_nil _ _ _ _ _⟩, ⟨Below.refl _ _⟩⟩
  case round =>
    obtain ⟨i, b, rfl, rfl, HBB, HI, HO, HB⟩ := hrel
    have hli := HL.out
    by_cases c4 : i < l0.length
    · have c4b0 : decide ((i : Int) < (l0.length : Int)) = true := decide_eq_true (by omega)
      have c4b1 : decide (i < l0.length) = true := decide_eq_true c4
      obtain ⟨z, g0⟩ : ∃ z, l0[i]? = some z := ⟨_, List.getElem?_eq_getElem c4⟩
      obtain ⟨ad, rfl, hx⟩ := C_str (Kd.C_below HR0.out HB.out) i z g0
      have HSN := Aside0.mk (take_snoc l0 i z g0)
      have HAN := Aside0.mk (any_snoc dotB l0 i z g0)
      have hz := HSZ.out z (List.mem_of_getElem? g0)
      have HZ := Aside0.mk hz
      have HLEN : Aside0 (((l0.take i).map blk).length + 1 ≤ 8796093022208) := ⟨by have := HLE.out; simp; omega⟩
      clear hz g0
      have bi : (i : Int) < 9223372036854775807 := by omega
      obtain ⟨acc, hacc⟩ : ∃ acc, acc = (l0.take i).map blk := ⟨_, rfl⟩
      rw [← hacc] at HO HLEN
      have HACC := Aside0.mk hacc
      clear hacc
      cases hd : dotB z with
      | true =>
        have HD : Aside0 (dots_dotted.f z = some true) := ⟨by rw [dotted_f, hd]⟩
        have HF : Aside0 (dots_Block_1.f z = some (blk z)) := ⟨by have := dotB_pos hd; have := HZ.out; unfold dots_Block_1.f blk; rw [if_pos hd, if_pos (by omega)]⟩
        have HBN : Aside0 (true = (l0.take (i + 1)).any dotB) := ⟨by rw [HAN.out, hd]; simp⟩
        obtain ⟨y, hy⟩ : ∃ y, y = blk z := ⟨_, rfl⟩
        rw [← hy] at HF
        have HY := Aside0.mk hy
        clear hd hy
        go_wp2_with (first | (go_at_call 50; (with_reducible refine (dots_dotted.calls z _ _ HD.out).mono ?_); rintro e w' ⟨rfl, ⟨nd, rfl⟩⟩) | (go_at_call 51; (with_reducible refine (dots_Block_1.calls z _ _ HF.out).mono ?_); rintro e w' ⟨rfl, ⟨nd2, rfl⟩⟩) | ((with_reducible refine gate_builtin (b := .append) (xs := #[.tmp 24, .tmp 26]) rfl ?_); at_builtin; refine Kd.R_append Kd.string (w0 := w) w.heap.size rfl (.tmp 24) (.tmp 26) 22 9 (.string ⟨#[]⟩) 16 rfl Try.underlying22 info9 rfl (by decide) (by omega) _ acc y [.string y] (fun _ => True) (fun _ => False) rfl rfl ?aP (fun _ hk => hk.elim) (fun _ _ => trivial) ?aO ?aB ?aS ?aL ?_; (case aP => exact rfl); (case aB => exact (by repeat (first | (with_reducible first | exact HB.out | apply below_alloc | apply pw_below_drewN | apply below_drew1) | exact HB.out))); (case aO => exact (by (with_reducible repeat (first | apply Kd.R_alloc | apply Kd.R_drewN | apply Kd.R_drew)); exact HO.out)); (case aS => exact (below_size (by repeat (first | (with_reducible first | exact HB.out | apply below_alloc | apply pw_below_drewN | apply below_drew1) | exact HB.out)))); (case aL => have := HLEN.out; omega); intro v126 w17 ho hb hg hat; have n1 := Aside0.mk ho; have n2 := Aside0.mk hb; clear ho hb hg hat))
        go_roundg (l0.length - (i + 1))
        case measure => have := HI.out; omega
        case rel => exact ⟨i + 1, true, rfl, by go_num, HBN, ⟨by omega, rfl⟩, ⟨by rw [HSN.out, List.map_append, ← HACC.out, List.map_singleton, ← HY.out]; exact n1.out⟩, n2⟩
      | false =>
        have HD : Aside0 (dots_dotted.f z = some false) := ⟨by rw [dotted_f, hd]⟩
        have HBN : Aside0 (b = (l0.take (i + 1)).any dotB) := ⟨by rw [HAN.out, hd, Bool.or_false]; exact HBB.out⟩
        have HY : Aside0 (z = blk z) := ⟨by unfold blk; rw [if_neg (by rw [hd]; decide)]⟩
        clear hd
        go_wp2_with (first | (go_at_call 50; (with_reducible refine (dots_dotted.calls z _ _ HD.out).mono ?_); rintro e w' ⟨rfl, ⟨nd, rfl⟩⟩) | ((with_reducible refine gate_builtin (b := .append) (xs := #[.tmp 24, .tmp 26]) rfl ?_); at_builtin; refine Kd.R_append Kd.string (w0 := w) w.heap.size rfl (.tmp 24) (.tmp 26) 22 9 (.string ⟨#[]⟩) 16 rfl Try.underlying22 info9 rfl (by decide) (by omega) _ acc z [.string z] (fun _ => True) (fun _ => False) rfl rfl ?aP (fun _ hk => hk.elim) (fun _ _ => trivial) ?aO ?aB ?aS ?aL ?_; (case aP => exact rfl); (case aB => exact (by repeat (first | (with_reducible first | exact HB.out | apply below_alloc | apply pw_below_drewN | apply below_drew1) | exact HB.out))); (case aO => exact (by (with_reducible repeat (first | apply Kd.R_alloc | apply Kd.R_drewN | apply Kd.R_drew)); exact HO.out)); (case aS => exact (below_size (by repeat (first | (with_reducible first | exact HB.out | apply below_alloc | apply pw_below_drewN | apply below_drew1) | exact HB.out)))); (case aL => have := HLEN.out; omega); intro v126 w17 ho hb hg hat; have n1 := Aside0.mk ho; have n2 := Aside0.mk hb; clear ho hb hg hat))
        go_roundg (l0.length - (i + 1))
        case measure => have := HI.out; omega
        case rel => exact ⟨i + 1, b, rfl, by go_num, HBN, ⟨by omega, rfl⟩, ⟨by rw [HSN.out, List.map_append, ← HACC.out, List.map_singleton, ← HY.out]; exact n1.out⟩, n2⟩
    · have c4b0 : decide ((i : Int) < (l0.length : Int)) = false := decide_eq_false (by omega)
      have c4b1 : decide (i < l0.length) = false := decide_eq_false c4
      have HT := Aside0.mk (List.take_of_length_le (l := l0) (i := i) (by omega))
      clear c4
      go_wp2
      repeat (go_quiet (fail); try go_wp2)
      go_ret2
      exact ⟨_, by have := HBB.out; rw [HT.out] at this; rw [← this]; rfl, by have := HO.out; rw [HT.out] at this; exact this, HB.out⟩

set_option maxHeartbeats 4000000 in
set_option maxRecDepth 100000 in
theorem all52_calls (A0 : Option Addr) (c0 : Nat) (l0 : List ByteArray) (w : World) (hr0 : Kd.C Kd.string w A0 l0.length l0) (hc0 : l0.length ≤ c0) (hsz : ∀ s ∈ l0, s.size + 1 ≤ 9223372036854775807) (hlen : l0.length ≤ 8796093022207) :
    Calls Try.prog 49 #[.slice A0 l0.length c0, .func (.func 50) #[] #[], .func (.func 52) #[] #[]] w fun e w' => ∃ v0_ : Value, e = .returned (.tuple #[v0_, .bool (l0.any dotB)]) ∧ Kd.R Kd.string 9 w' w.heap.size (fun _ => True) v0_ (l0.map unb) ∧ Below w.heap.size w w' := by
  have HR0 := Aside0.mk hr0
  have HC0 := Aside0.mk hc0
  have HL := Aside0.mk hr0.2.1
  have HSZ := Aside0.mk hsz
  have HLE := Aside0.mk hlen
  clear hr0 hc0 hsz hlen
  go_enter Try.func49, Try.ntmps49
  go_wp2
  repeat (go_quiet (fail); try go_wp2)
  go_loopg [8, 9, 14] l0.length (fun kq v8 v9 v14 wr => ∃ (i : Nat) (b : Bool), v9 = .bool b ∧ v14 = .int .i64 (i : Int) ∧ Aside0 (b = (l0.take i).any dotB) ∧ Aside0 (i ≤ l0.length ∧ kq = l0.length - i) ∧
    Aside0 (Kd.R Kd.string 9 wr w.heap.size (fun _ => True) v8 ((l0.take i).map unb)) ∧ Aside0 (Below w.heap.size w wr))
  case atStart => exact ⟨0, false, rfl, rfl, ⟨by simp⟩, ⟨Nat.zero_le _, rfl⟩, ⟨Kd.R_nil _ _ _ _ _⟩, ⟨Below.refl _ _⟩⟩
  case round =>
    obtain ⟨i, b, rfl, rfl, HBB, HI, HO, HB⟩ := hrel
    have hli := HL.out
    by_cases c4 : i < l0.length
    · have c4b0 : decide ((i : Int) < (l0.length : Int)) = true := decide_eq_true (by omega)
      have c4b1 : decide (i < l0.length) = true := decide_eq_true c4
      obtain ⟨z, g0⟩ : ∃ z, l0[i]? = some z := ⟨_, List.getElem?_eq_getElem c4⟩
      obtain ⟨ad, rfl, hx⟩ := C_str (Kd.C_below HR0.out HB.out) i z g0
      have HSN := Aside0.mk (take_snoc l0 i z g0)
      have HAN := Aside0.mk (any_snoc dotB l0 i z g0)
      have hz := HSZ.out z (List.mem_of_getElem? g0)
      have HZ := Aside0.mk hz
      have HLEN : Aside0 (((l0.take i).map unb).length + 1 ≤ 8796093022208) := ⟨by have := HLE.out; simp; omega⟩
      clear hz g0
      have bi : (i : Int) < 9223372036854775807 := by omega
      obtain ⟨acc, hacc⟩ : ∃ acc, acc = (l0.take i).map unb := ⟨_, rfl⟩
      rw [← hacc] at HO HLEN
      have HACC := Aside0.mk hacc
      clear hacc
      cases hd : dotB z with
      | true =>
        have HD : Aside0 (dots_dotted.f z = some true) := ⟨by rw [dotted_f, hd]⟩
        have HF : Aside0 (dots_Strip_1.f z = some (unb z)) := ⟨by have := dotB_pos hd; have := HZ.out; unfold dots_Strip_1.f unb; rw [if_pos hd, if_pos (by omega)]⟩
        have HBN : Aside0 (true = (l0.take (i + 1)).any dotB) := ⟨by rw [HAN.out, hd]; simp⟩
        obtain ⟨y, hy⟩ : ∃ y, y = unb z := ⟨_, rfl⟩
        rw [← hy] at HF
        have HY := Aside0.mk hy
        clear hd hy
        go_wp2_with (first | (go_at_call 50; (with_reducible refine (dots_dotted.calls z _ _ HD.out).mono ?_); rintro e w' ⟨rfl, ⟨nd, rfl⟩⟩) | (go_at_call 52; (with_reducible refine (dots_Strip_1.calls z _ _ HF.out).mono ?_); rintro e w' ⟨rfl, ⟨nd2, rfl⟩⟩) | ((with_reducible refine gate_builtin (b := .append) (xs := #[.tmp 24, .tmp 26]) rfl ?_); at_builtin; refine Kd.R_append Kd.string (w0 := w) w.heap.size rfl (.tmp 24) (.tmp 26) 22 9 (.string ⟨#[]⟩) 16 rfl Try.underlying22 info9 rfl (by decide) (by omega) _ acc y [.string y] (fun _ => True) (fun _ => False) rfl rfl ?aP (fun _ hk => hk.elim) (fun _ _ => trivial) ?aO ?aB ?aS ?aL ?_; (case aP => exact rfl); (case aB => exact (by repeat (first | (with_reducible first | exact HB.out | apply below_alloc | apply pw_below_drewN | apply below_drew1) | exact HB.out))); (case aO => exact (by (with_reducible repeat (first | apply Kd.R_alloc | apply Kd.R_drewN | apply Kd.R_drew)); exact HO.out)); (case aS => exact (below_size (by repeat (first | (with_reducible first | exact HB.out | apply below_alloc | apply pw_below_drewN | apply below_drew1) | exact HB.out)))); (case aL => have := HLEN.out; omega); intro v126 w17 ho hb hg hat; have n1 := Aside0.mk ho; have n2 := Aside0.mk hb; clear ho hb hg hat))
        go_roundg (l0.length - (i + 1))
        case measure => have := HI.out; omega
        case rel => exact ⟨i + 1, true, rfl, by go_num, HBN, ⟨by omega, rfl⟩, ⟨by rw [HSN.out, List.map_append, ← HACC.out, List.map_singleton, ← HY.out]; exact n1.out⟩, n2⟩
      | false =>
        have HD : Aside0 (dots_dotted.f z = some false) := ⟨by rw [dotted_f, hd]⟩
        have HBN : Aside0 (b = (l0.take (i + 1)).any dotB) := ⟨by rw [HAN.out, hd, Bool.or_false]; exact HBB.out⟩
        have HY : Aside0 (z = unb z) := ⟨by unfold unb; rw [if_neg (by rw [hd]; decide)]⟩
        clear hd
        go_wp2_with (first | (go_at_call 50; (with_reducible refine (dots_dotted.calls z _ _ HD.out).mono ?_); rintro e w' ⟨rfl, ⟨nd, rfl⟩⟩) | ((with_reducible refine gate_builtin (b := .append) (xs := #[.tmp 24, .tmp 26]) rfl ?_); at_builtin; refine Kd.R_append Kd.string (w0 := w) w.heap.size rfl (.tmp 24) (.tmp 26) 22 9 (.string ⟨#[]⟩) 16 rfl Try.underlying22 info9 rfl (by decide) (by omega) _ acc z [.string z] (fun _ => True) (fun _ => False) rfl rfl ?aP (fun _ hk => hk.elim) (fun _ _ => trivial) ?aO ?aB ?aS ?aL ?_; (case aP => exact rfl); (case aB => exact (by repeat (first | (with_reducible first | exact HB.out | apply below_alloc | apply pw_below_drewN | apply below_drew1) | exact HB.out))); (case aO => exact (by (with_reducible repeat (first | apply Kd.R_alloc | apply Kd.R_drewN | apply Kd.R_drew)); exact HO.out)); (case aS => exact (below_size (by repeat (first | (with_reducible first | exact HB.out | apply below_alloc | apply pw_below_drewN | apply below_drew1) | exact HB.out)))); (case aL => have := HLEN.out; omega); intro v126 w17 ho hb hg hat; have n1 := Aside0.mk ho; have n2 := Aside0.mk hb; clear ho hb hg hat))
        go_roundg (l0.length - (i + 1))
        case measure => have := HI.out; omega
        case rel => exact ⟨i + 1, b, rfl, by go_num, HBN, ⟨by omega, rfl⟩, ⟨by rw [HSN.out, List.map_append, ← HACC.out, List.map_singleton, ← HY.out]; exact n1.out⟩, n2⟩
    · have c4b0 : decide ((i : Int) < (l0.length : Int)) = false := decide_eq_false (by omega)
      have c4b1 : decide (i < l0.length) = false := decide_eq_false c4
      have HT := Aside0.mk (List.take_of_length_le (l := l0) (i := i) (by omega))
      clear c4
      go_wp2
      repeat (go_quiet (fail); try go_wp2)
      go_ret2
      exact ⟨_, by have := HBB.out; rw [HT.out] at this; rw [← this]; rfl, by have := HO.out; rw [HT.out] at this; exact this, HB.out⟩
end Go.Proofs.Ytbhfenpccccloaa.M
