/- content.others and what it calls: closures by contracts of their own. -/
import Derived.Test.YtiaoppikdgoieaaF52
import Derived.Test.YtiaoppikdgoieaaHand
namespace Go.Proofs.Ytiaoppikdgoieaa.M
open Go.RowKit Go.Proofs.YtiaoppikdgoieaaW.PrintWords Go.Proofs.YtiaoppikdgoieaaW.PrintLast Go.Proofs.YtiaoppikdgoieaaW.PrintMore Go.Proofs.Ytiaoppikdgoieaa.Hand
set_option linter.unusedVariables false
set_option linter.unusedSimpArgs false

/-- slices.Equal of lists of texts tells whether they are the same. -/
theorem equal_l0 (a b : List ByteArray) (hab : a.length = b.length) (hm : a.length ≤ 9223372036854775807) (d : Nat) : ∀ (i : Nat), i ≤ a.length → a.length - i = d →
    slices_Equal_string_string.l0 (d + 1) a b (a.length : Int) (i : Int) = some (decide (a.drop i = b.drop i)) := by
  induction d with
  | zero =>
    intro i hi hd
    simp only [slices_Equal_string_string.l0]
    rw [if_neg (by omega), List.drop_of_length_le (by omega), List.drop_of_length_le (by omega)]
    simp
  | succ d ih =>
    intro i hi hd
    have hlt : i < a.length := by omega
    have hlt2 : i < b.length := by omega
    rw [slices_Equal_string_string.l0, if_pos (by omega), if_pos (by omega), if_pos (by omega), if_pos (by omega), wrap_nat (by omega), ih (i + 1) (by omega) (by omega)]
    have d1 := List.drop_eq_getElem_cons hlt
    have d2 := List.drop_eq_getElem_cons hlt2
    have ee : (a.drop i = b.drop i) ↔ (a[i] = b[i] ∧ a.drop (i + 1) = b.drop (i + 1)) := by rw [d1, d2, List.cons.injEq]
    have e1 : rdOf ByteArray.empty a (i : Int) = a[i] := by simp [rdOf, List.getD_eq_getElem?_getD, hlt]
    have e2 : rdOf ByteArray.empty b (i : Int) = b[i] := by simp [rdOf, List.getD_eq_getElem?_getD, hlt2]
    rw [e1, e2]
    by_cases h : a[i].toList = b[i].toList
    · rw [if_pos h]
      have h2 := bytes_ext _ _ h
      congr 1
      simp only [ee, h2, true_and]
    · rw [if_neg h]
      have h2 : ¬ a[i] = b[i] := fun e => h (by rw [e])
      congr 1
      simp only [ee, h2, false_and, decide_false]
theorem equal_f (a b : List ByteArray) (hm : a.length ≤ 9223372036854775807) : slices_Equal_string_string.f (a.length + 1) a b = some (decide (a = b)) := by
  unfold slices_Equal_string_string.f
  by_cases h : a.length = b.length
  · rw [if_pos (by omega)]
    have := equal_l0 a b h hm a.length 0 (by omega) (by omega)
    simpa using this
  · rw [if_neg (by omega)]
    have : ¬ a = b := fun e => h (by rw [e])
    simp [this]

set_option maxHeartbeats 400000 in
theorem others1_calls (w : World) (p5 p9 : Addr) (A0 : Option Addr) (c0 : Nat) (l0 : List ByteArray) (A1 : Option Addr) (c1 : Nat) (l1 : List ByteArray)
    (h5 : w.cell? p5 = some (.func (.func 52) #[] #[])) (h9 : w.cell? p9 = some (.slice A1 l1.length c1))
    (hr0 : Kd.C Kd.string w A0 l0.length l0) (hc0 : l0.length ≤ c0) (hr1 : Kd.C Kd.string w A1 l1.length l1) (hc1 : l1.length ≤ c1) :
    Calls Try.prog 72 #[.slice A0 l0.length c0, .pointer (some p5), .pointer (some p9)] w fun e w' => e = .returned (.bool (decide (l1 = l0))) ∧ Drawn0 w w' := by
  have hk := equal_f l1 l0 hr1.2.1
  have HR0 := Aside0.mk hr0
  have HC0 := Aside0.mk hc0
  have HR1 := Aside0.mk hr1
  have HC1 := Aside0.mk hc1
  have HK := Aside0.mk hk
  clear hr0 hc0 hr1 hc1 hk
  go_enter Try.func72, Try.ntmps72
  go_wp2_with (go_at_call 52; (with_reducible refine (slices_Equal_string_string.calls _ _ _ l1 _ _ l0 _ _ HR1.out HC1.out HR0.out HC0.out HK.out).mono ?_); rintro e w' ⟨rfl, ⟨nd, rfl⟩⟩)
  go_ret
  exact ⟨rfl, ⟨_, rfl⟩⟩

set_option maxHeartbeats 1000000 in
theorem index72_calls (w : World) (p5 p9 : Addr) (A0 : Option Addr) (c0 : Nat) (l0 : List (List ByteArray)) (A1 : Option Addr) (c1 : Nat) (l1 : List ByteArray)
    (h5 : w.cell? p5 = some (.func (.func 52) #[] #[])) (h9 : w.cell? p9 = some (.slice A1 l1.length c1))
    (hr0 : Kd.C (Kd.slice 9 Kd.string) w A0 l0.length l0) (hc0 : l0.length ≤ c0) (hr1 : Kd.C Kd.string w A1 l1.length l1) (hc1 : l1.length ≤ c1) :
    Calls Try.prog 74 #[.slice A0 l0.length c0, .func (.func 72) #[] #[.pointer (some p5), .pointer (some p9)]] w (IdxPost (fun z => decide (l1 = z)) l0 w) := by
  have HR0 := Aside0.mk hr0
  have HC0 := Aside0.mk hc0
  have HR1 := Aside0.mk hr1
  have HC1 := Aside0.mk hc1
  have HL := Aside0.mk hr0.2.1
  clear hr0 hc0 hr1 hc1
  go_enter Try.func74, Try.ntmps74
  go_wp2
  repeat (go_quiet (fail); try go_wp2)
  go_loopg [8] l0.length (fun kq v8 w' => ∃ i : Nat, v8 = .int .i64 (i : Int) ∧ Aside0 (i ≤ l0.length ∧ kq = l0.length - i) ∧ Aside0 ((l0.take i).any (fun z => decide (l1 = z)) = false) ∧ Drawn0 w w')
  case atStart => exact ⟨0, rfl, ⟨Nat.zero_le _, rfl⟩, ⟨by simp⟩, Drawn0.refl _⟩
  case round =>
    obtain ⟨i, rfl, HI, HA, ⟨m1, rfl⟩⟩ := hrel
    have hli := HL.out
    by_cases c4 : i < l0.length
    · have c4b0 : decide ((i : Int) < (l0.length : Int)) = true := decide_eq_true (by omega)
      have c4b1 : decide (i < l0.length) = true := decide_eq_true c4
      obtain ⟨z, g0⟩ : ∃ z, l0[i]? = some z := ⟨_, List.getElem?_eq_getElem c4⟩
      obtain ⟨ad, A2, c2, rfl, hx, hl, hi⟩ := C_row HR0.out i z g0
      have G0 := Aside0.mk g0
      have HR2 := Aside0.mk hi
      have HC2 := Aside0.mk hl
      clear hi hl g0
      have bi : (i : Int) < 9223372036854775807 := by omega
      by_cases hp : l1 = z
      · have hd : decide (l1 = z) = true := decide_eq_true hp
        have HP := Aside0.mk hp
        clear hp
        go_wp2_with (go_at_call 72; (with_reducible refine (others1_calls _ p5 p9 _ _ z A1 c1 l1 ?sa ?sb ?sc ?sd ?se ?sf).mono ?_); (case sa => simpa using h5); (case sb => simpa using h9); (case sc => with_reducible exact Kd.C_drewN HR2.out _); (case sd => exact HC2.out); (case se => with_reducible exact Kd.C_drewN HR1.out _); (case sf => exact HC1.out); rintro e w' ⟨rfl, ⟨nd, rfl⟩⟩)
        go_ret
        exact ⟨i, rfl, by rw [any_found _ _ i z G0.out hd]; simp, ⟨⟨_, rfl⟩⟩⟩
      · have hd : decide (l1 = z) = false := decide_eq_false hp
        go_wp2_with (go_at_call 72; (with_reducible refine (others1_calls _ p5 p9 _ _ z A1 c1 l1 ?sa ?sb ?sc ?sd ?se ?sf).mono ?_); (case sa => simpa using h5); (case sb => simpa using h9); (case sc => with_reducible exact Kd.C_drewN HR2.out _); (case sd => exact HC2.out); (case se => with_reducible exact Kd.C_drewN HR1.out _); (case sf => exact HC1.out); rintro e w' ⟨rfl, ⟨nd, rfl⟩⟩)
        go_roundg (l0.length - (i + 1))
        case measure => have := HI.out; omega
        case rel => exact ⟨i + 1, by go_num, ⟨by omega, rfl⟩, ⟨any_take_succ _ _ i z G0.out HA.out hd⟩, ⟨⟨_, rfl⟩⟩⟩
    · have c4b0 : decide ((i : Int) < (l0.length : Int)) = false := decide_eq_false (by omega)
      have c4b1 : decide (i < l0.length) = false := decide_eq_false c4
      have hi' : l0.take i = l0 := List.take_of_length_le (by omega)
      have HQ := Aside0.mk hi'
      clear hi'
      go_wp2
      repeat (go_quiet (fail); try go_wp2)
      go_ret
      exact ⟨-1, rfl, by have := HA.out; rw [HQ.out] at this; rw [this]; rfl, ⟨⟨_, rfl⟩⟩⟩

theorem contains72_calls (w : World) (p5 p9 : Addr) (A0 : Option Addr) (c0 : Nat) (l0 : List (List ByteArray)) (A1 : Option Addr) (c1 : Nat) (l1 : List ByteArray)
    (h5 : w.cell? p5 = some (.func (.func 52) #[] #[])) (h9 : w.cell? p9 = some (.slice A1 l1.length c1))
    (hr0 : Kd.C (Kd.slice 9 Kd.string) w A0 l0.length l0) (hc0 : l0.length ≤ c0) (hr1 : Kd.C Kd.string w A1 l1.length l1) (hc1 : l1.length ≤ c1) :
    Calls Try.prog 60 #[.slice A0 l0.length c0, .func (.func 72) #[] #[.pointer (some p5), .pointer (some p9)]] w fun e w' => e = .returned (.bool (l0.any fun z => decide (l1 = z))) ∧ Drawn0 w w' := by
  have HC := Aside0.mk (index72_calls w p5 p9 A0 c0 l0 A1 c1 l1 h5 h9 hr0 hc0 hr1 hc1)
  clear h5 h9 hr0 hc0 hr1 hc1
  go_enter Try.func60, Try.ntmps60
  go_wp2_with (go_at_call 74; (with_reducible refine HC.out.mono ?_); rintro e w' ⟨n, rfl, hn, ⟨nd, rfl⟩⟩; have HN := Aside0.mk hn; clear hn)
  go_ret
  exact ⟨by rw [← HN.out]; rfl, ⟨⟨_, rfl⟩⟩⟩

/-- The values of a list that are not the same as one, each once: as the code takes them. -/
def othersG (x : List ByteArray) : List (List ByteArray) → List (List ByteArray) → List (List ByteArray)
  | [], acc => acc
  | y :: l, acc => othersG x l (if (decide (y = x) || acc.any fun z => decide (y = z)) = true then acc else acc ++ [y])
theorem othersG_snoc (x : List ByteArray) (l acc : List (List ByteArray)) (y : List ByteArray) : othersG x (l ++ [y]) acc = (if (decide (y = x) || (othersG x l acc).any fun z => decide (y = z)) = true then othersG x l acc else othersG x l acc ++ [y]) := by
  induction l generalizing acc with
  | nil => rfl
  | cons z l ih => simp only [List.cons_append, othersG]; exact ih _
theorem othersG_len (x : List ByteArray) (l acc : List (List ByteArray)) : (othersG x l acc).length ≤ acc.length + l.length := by
  induction l generalizing acc with
  | nil => simp [othersG]
  | cons z l ih =>
    simp only [othersG, List.length_cons]
    refine Nat.le_trans (ih _) ?_
    split <;> simp <;> omega
theorem othersG_append (x : List ByteArray) (l1 l2 acc : List (List ByteArray)) : othersG x (l1 ++ l2) acc = othersG x l2 (othersG x l1 acc) := by
  induction l1 generalizing acc with
  | nil => rfl
  | cons z l ih => simp only [List.cons_append, othersG]; exact ih _
theorem othersG_ge (x : List ByteArray) (l acc : List (List ByteArray)) : acc.length ≤ (othersG x l acc).length := by
  induction l generalizing acc with
  | nil => simp [othersG]
  | cons z l ih =>
    simp only [othersG]
    refine Nat.le_trans ?_ (ih _)
    split <;> simp
theorem othersG_pre (x : List ByteArray) (l1 l2 acc : List (List ByteArray)) : (othersG x l1 acc).length ≤ (othersG x (l1 ++ l2) acc).length := by
  rw [othersG_append]; exact othersG_ge _ _ _
end Go.Proofs.Ytiaoppikdgoieaa.M
