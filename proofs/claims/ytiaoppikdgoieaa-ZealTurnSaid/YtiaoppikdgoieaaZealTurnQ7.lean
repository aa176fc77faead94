/- Texts of the claim ZealTurn, put together (part 7): zeal.alike: how many places, one by one, have the same in all lists; from the begin, and from the end. zeal.alike at its two functions, and whether one of some lists has something, as the print's contracts. pick.Choose: what it chooses; its closure by a contract of its own. slices.Concat of lists of texts, and slices.Grow of nothing. pick.row: the piece that came last. pick.row: what put leaves. pick.Normal: what it gives, as a Lean function, and that the machine's call does what it says. -/
import Derived.ArgAppend
import Derived.Below
import Derived.BigQuiet
import Derived.Deep.AppendLies
import Derived.Deep.CutBlock
import Derived.Deep.DeepCutAuto
import Derived.Deep.Draws
import Derived.Deep.LoopGhost
import Derived.Deep.OwnRows
import Derived.Deep.QuietTactic
import Derived.Deep.RegionHeld3
import Derived.KernelRfl
import Derived.Laws.BitsLemmas
import Derived.Laws.BytesArg
import Derived.Laws.IdiomCopy
import Derived.Laws.MakeOwn
import Derived.Laws.OwnMore
import Derived.Laws.Rows
import Derived.Laws.Slices
import Derived.Laws.StructEq
import Derived.Lib.AppendStr
import Derived.Lib.ConvBytes
import Derived.Maps.AppendAt
import Derived.OrdersHeld
import Derived.OwnWalk
import Derived.RangeFuncBox
import Derived.RowKit
import Derived.RowKit3
import Derived.Tactics
import Derived.Test.YtiaoppikdgoieaaProg
import Derived.WalkKit
import Derived.WideLaws
import Derived.Test.YtiaoppikdgoieaaZealTurnQ6
namespace Go.Proofs.Ytiaoppikdgoieaa.M
open Go.RowKit Go.Proofs Go.Proofs.YtiaoppikdgoieaaW.PrintWords Go.Proofs.YtiaoppikdgoieaaW.PrintLast Go.Proofs.YtiaoppikdgoieaaW.PrintMore Go.Proofs.Ytiaoppikdgoieaa.Hand
attribute [local go_sem] Oper.semAt_some max2_int min2_int max_two min_two max_three min_three max_four min_four
set_option linter.unusedVariables false
set_option linter.unusedSimpArgs false

def atF (l : List ByteArray) (n : Nat) : ByteArray := rdOf ByteArray.empty l (n : Int)
def atB (l : List ByteArray) (n : Nat) : ByteArray := rdOf ByteArray.empty l ((l.length - 1 - n : Nat) : Int)
def leastL (f : List ByteArray) (l : List (List ByteArray)) : Nat := l.foldl (fun a k => min a k.length) f.length
def differB (at_ : List ByteArray → Nat → ByteArray) (l : List (List ByteArray)) (n : Nat) : Bool := l.any fun k => decide (at_ k n ≠ at_ (rd_L1 l 0) n)
def alikeG (at_ : List ByteArray → Nat → ByteArray) (l : List (List ByteArray)) : Nat → Nat → Nat
  | 0, n => n
  | d + 1, n => if differB at_ l n = true then n else alikeG at_ l d (n + 1)
theorem foldMin_le : ∀ (l : List (List ByteArray)) (a : Nat), l.foldl (fun a k => min a k.length) a ≤ a ∧ ∀ k ∈ l, l.foldl (fun a k => min a k.length) a ≤ k.length
  | [], a => ⟨Nat.le_refl _, fun k h => by cases h⟩
  | x :: t, a => by
    obtain ⟨h1, h2⟩ := foldMin_le t (min a x.length)
    rw [List.foldl_cons]
    refine ⟨by omega, fun k hk => ?_⟩
    rcases List.mem_cons.1 hk with hk | hk
    · rw [hk]; omega
    · exact h2 k hk
theorem leastL_le (f : List ByteArray) (l : List (List ByteArray)) : leastL f l ≤ f.length ∧ ∀ k ∈ l, leastL f l ≤ k.length := foldMin_le l f.length
theorem leastL_snoc (f : List ByteArray) (l : List (List ByteArray)) (i : Nat) (x : List ByteArray) (h : l[i]? = some x) : leastL f (l.take (i + 1)) = min (leastL f (l.take i)) x.length := by
  unfold leastL
  rw [take_snoc l i x h, List.foldl_append]; rfl
theorem alikeG_le (at_ : List ByteArray → Nat → ByteArray) (l : List (List ByteArray)) : ∀ d n, alikeG at_ l d n ≤ n + d := by
  intro d
  induction d with
  | zero => intro n; simp [alikeG]
  | succ d ih =>
    intro n
    rw [alikeG]
    split
    · omega
    · have := ih (n + 1); omega

set_option maxHeartbeats 1000000 in
theorem at57_c (W : World) (A : Option Addr) (c : Nat) (l : List ByteArray) (n : Nat) (hC : Kd.C Kd.string W A l.length l) (hn : n < l.length) (hl : l.length ≤ 1000000) :
    Calls Try.prog 57 #[.slice A l.length c, .int .i64 (n : Int)] W fun e w' => e = .returned (.string (atF l n)) ∧ Drawn0 W w' := by
  obtain ⟨x, hx⟩ : ∃ x, l[n]? = some x := ⟨_, List.getElem?_eq_getElem hn⟩
  obtain ⟨ad, rfl, hc⟩ := C_str hC n x hx
  have e : atF l n = x := by simp [atF, rdOf, List.getD_eq_getElem?_getD, hx]
  rw [e]
  have b1 : (n : Int) < (l.length : Int) := by omega
  clear hC hx e
  go_enter Try.func57, Try.ntmps57
  go_wp2
  go_ret
  exact ⟨rfl, Drawn0.refl _⟩
set_option maxHeartbeats 1000000 in
theorem at59_c (W : World) (A : Option Addr) (c : Nat) (l : List ByteArray) (n : Nat) (hC : Kd.C Kd.string W A l.length l) (hn : n < l.length) (hl : l.length ≤ 1000000) :
    Calls Try.prog 59 #[.slice A l.length c, .int .i64 (n : Int)] W fun e w' => e = .returned (.string (atB l n)) ∧ Drawn0 W w' := by
  obtain ⟨m, hm⟩ : ∃ m, l.length = m + n + 1 := ⟨l.length - 1 - n, by omega⟩
  obtain ⟨x, hx⟩ : ∃ x, l[m]? = some x := ⟨_, List.getElem?_eq_getElem (by omega)⟩
  obtain ⟨ad, rfl, hc⟩ := C_str hC m x hx
  have e : atB l n = x := by
    unfold atB
    rw [show l.length - 1 - n = m from by omega]
    simp [rdOf, List.getD_eq_getElem?_getD, hx]
  have hml : m + n + 1 ≤ 1000000 := by omega
  have w1 : wrap64 (((m + n + 1 : Nat) : Int) - 1) = ((m + n : Nat) : Int) := by unfold wrap64; omega
  have w2 : wrap64 (((m + n : Nat) : Int) - (n : Int)) = (m : Int) := by unfold wrap64; omega
  rw [e, hm]
  have b1 : (m : Int) < ((m + n + 1 : Nat) : Int) := by omega
  have b2 : m < m + n + 1 := by omega
  have b3 : (m : Int) + (n : Int) + 1 ≤ 1000000 := by omega
  clear hC hx e hm hn hl
  go_enter Try.func59, Try.ntmps59
  go_wp2
  go_ret
  exact ⟨rfl, Drawn0.refl _⟩

set_option maxHeartbeats 4000000 in
set_option maxRecDepth 100000 in
theorem alike73_57 (W : World) (b2 b8 b3 : Nat) (A : Option Addr) (c : Nat) (l : List (List ByteArray)) (n : Nat) (Ak : Option Addr) (ck : Nat) (k : List ByteArray) (h2 : W.cell? ⟨b2, 0, none⟩ = some (.func (.func 57) #[] #[])) (h8 : W.cell? ⟨b8, 0, none⟩ = some (.int .i64 (n : Int))) (h3 : W.cell? ⟨b3, 0, none⟩ = some (.slice A l.length c))
    (hl : Kd.C (Kd.slice 9 Kd.string) W A l.length l) (hp : 0 < l.length) (hk : Kd.C Kd.string W Ak k.length k) (hkc : k.length ≤ ck) (hkn : n < k.length) (hfn : n < (rd_L1 l 0).length) (hk6 : k.length ≤ 1000000) (hf6 : (rd_L1 l 0).length ≤ 1000000) :
    Calls Try.prog 73 #[.slice Ak k.length ck, .pointer (some ⟨b2, 0, none⟩), .pointer (some ⟨b8, 0, none⟩), .pointer (some ⟨b3, 0, none⟩)] W fun e w' => e = .returned (.bool (decide (atF k n ≠ atF (rd_L1 l 0) n))) ∧ Drawn0 W w' := by
  obtain ⟨ad, A1, c1, rfl, hx0, hl1, hC1⟩ := at_L1 hl 0 (by omega) (by omega)
  have hx : W.cell? ad = some (.slice A1 (rd_L1 l 0).length c1) := hx0
  have K1 := Aside0.mk (fun W' (h : Drawn0 W W') => at57_c W' Ak ck k n (by obtain ⟨m, rfl⟩ := h; exact Kd.C_drewN hk m) hkn hk6)
  have K2 := Aside0.mk (fun W' (h : Drawn0 W W') => at57_c W' A1 c1 (rd_L1 l 0) n (by obtain ⟨m, rfl⟩ := h; exact Kd.C_drewN hC1 m) hfn hf6)
  have hp' : (0 : Int) < (l.length : Int) := by omega
  clear hl hk hkc hkn hfn hk6 hf6 hl1 hC1 hx0
  obtain ⟨a, ha⟩ : ∃ a, atF k n = a := ⟨_, rfl⟩
  obtain ⟨b, hb⟩ : ∃ b, atF (rd_L1 l 0) n = b := ⟨_, rfl⟩
  rw [ha] at K1
  rw [hb] at K2
  rw [ha, hb]
  clear ha hb
  generalize (rd_L1 l 0).length = fl at K2 hx
  generalize k.length = kl at K1
  by_cases hab : a = b
  · subst hab
    have hd : decide (a ≠ a) = false := by simp
    rw [hd]
    go_enter Try.func73, Try.ntmps73
    go_wp2
    obtain ⟨W4, hW4⟩ : ∃ W4, W4 = W.drew := ⟨_, rfl⟩
    have D4 : Aside0 (Drawn0 W W.drew) := ⟨⟨1, rfl⟩⟩
    rw [← hW4] at D4
    refine start_ (n := 12) (S := fun w' => w'.cell? ⟨b2, 0, none⟩ = some (.func (.func 57) #[] #[]) ∧ w'.cell? ⟨b8, 0, none⟩ = some (.int .i64 (n : Int)) ∧ w'.cell? ⟨b3, 0, none⟩ = some (.slice (some ad) l.length c) ∧ w'.cell? ad = some (.slice A1 fl c1)) (ds := []) #[false, false, false, false, false, false, false, false, false, false, false, false] (by kernel_rfl) rfl rfl ⟨h2, h8, h3, hx⟩ (fun hHeld => ?_)
    rw [← hW4] at hHeld ⊢
    clear hW4 h2 h8 h3 hx
    refine pure_ (i := 1) (N := some 7) (v := ?_) (a' := ?_) #[false, true, false, false, false, false, false, false, false, false, false, false] rfl rfl (by kernel_rfl) (fun _ _ _ h => h) (Or.inl ⟨by rfl, ?_⟩) ?_ ?_
    rotate_left
    · intro w'
      go_simp
      with_reducible rfl
    rotate_left
    · simp only [Act.put, List.setIfInBounds_toArray, List.set_cons_zero, List.set_cons_succ, i64_w, i32_w]
      rfl
    refine take_ (i := 0) (N := some 6) (v := ?_) (a' := ?_) #[true, true, false, false, false, false, false, false, false, false, false, false] rfl rfl (by kernel_rfl) (fun _ _ _ h => h) (Or.inl ⟨by rfl, ?_⟩) hHeld ?_ ?_
    rotate_left
    · rintro w' ⟨s0, s1, s2, s3⟩
      go_simp
      with_reducible rfl
    rotate_left
    · simp only [Act.put, List.setIfInBounds_toArray, List.set_cons_zero, List.set_cons_succ, i64_w, i32_w]
      rfl
    refine take_ (i := 2) (N := some 8) (v := ?_) (a' := ?_) #[true, true, true, false, false, false, false, false, false, false, false, false] rfl rfl (by kernel_rfl) (fun _ _ _ h => h) (Or.inl ⟨by rfl, ?_⟩) hHeld ?_ ?_
    rotate_left
    · rintro w' ⟨s0, s1, s2, s3⟩
      go_simp
      with_reducible rfl
    rotate_left
    · simp only [Act.put, List.setIfInBounds_toArray, List.set_cons_zero, List.set_cons_succ, i64_w, i32_w]
      rfl
    refine take_ (i := 4) (N := some 10) (v := ?_) (a' := ?_) #[true, true, true, false, true, false, false, false, false, false, false, false] rfl rfl (by kernel_rfl) (fun _ _ _ h => h) (Or.inl ⟨by rfl, ?_⟩) hHeld ?_ ?_
    rotate_left
    · rintro w' ⟨s0, s1, s2, s3⟩
      go_simp
      with_reducible rfl
    rotate_left
    · simp only [Act.put, List.setIfInBounds_toArray, List.set_cons_zero, List.set_cons_succ, i64_w, i32_w]
      rfl
    refine take_ (i := 5) (N := some 11) (v := ?_) (a' := ?_) #[true, true, true, false, true, true, false, false, false, false, false, false] rfl rfl (by kernel_rfl) (fun _ _ _ h => h) (Or.inl ⟨by rfl, ?_⟩) hHeld ?_ ?_
    rotate_left
    · rintro w' ⟨s0, s1, s2, s3⟩
      go_simp
      with_reducible rfl
    rotate_left
    · simp only [Act.put, List.setIfInBounds_toArray, List.set_cons_zero, List.set_cons_succ, i64_w, i32_w]
      rfl
    refine pure_ (i := 6) (N := some 12) (v := ?_) (a' := ?_) #[true, true, true, false, true, true, true, false, false, false, false, false] rfl rfl (by kernel_rfl) (fun _ _ _ h => h) (Or.inl ⟨by rfl, ?_⟩) ?_ ?_
    rotate_left
    · intro w'
      go_simp
      with_reducible rfl
    rotate_left
    · simp only [Act.put, List.setIfInBounds_toArray, List.set_cons_zero, List.set_cons_succ, i64_w, i32_w]
      rfl
    refine take_ (i := 7) (N := some 13) (v := ?_) (a' := ?_) #[true, true, true, false, true, true, true, true, false, false, false, false] rfl rfl (by kernel_rfl) (fun _ _ _ h => h) (Or.inl ⟨by rfl, ?_⟩) hHeld ?_ ?_
    rotate_left
    · rintro w' ⟨s0, s1, s2, s3⟩
      go_simp
      with_reducible rfl
    rotate_left
    · simp only [Act.put, List.setIfInBounds_toArray, List.set_cons_zero, List.set_cons_succ, i64_w, i32_w]
      rfl
    refine take_ (i := 8) (N := some 14) (v := ?_) (a' := ?_) #[true, true, true, false, true, true, true, true, true, false, false, false] rfl rfl (by kernel_rfl) (fun _ _ _ h => h) (Or.inl ⟨by rfl, ?_⟩) hHeld ?_ ?_
    rotate_left
    · rintro w' ⟨s0, s1, s2, s3⟩
      go_simp
      with_reducible rfl
    rotate_left
    · simp only [Act.put, List.setIfInBounds_toArray, List.set_cons_zero, List.set_cons_succ, i64_w, i32_w]
      rfl
    refine one_ (i := 3) (N := some 9) #[true, true, true, true, true, true, true, true, true, false, false, false] rfl rfl (by kernel_rfl) (by decide) (fun K hK => ?_)
    obtain ⟨s0, s1, s2, s3⟩ := hHeld
    refine goesT_ #[] #[.slice Ak kl ck, .int .i64 (n : Int)] Try.func57 (by kernel_rfl) rfl #[.slice Ak kl ck, .int .i64 (n : Int)] rfl (by rfl) rfl rfl (by rfl) (by simp only [List.map_toArray, List.map_cons, List.map_nil]; rfl) ?_
    with_reducible refine (K1.out _ D4.out).mono ?_
    rintro e w3 ⟨rfl, ⟨nd, rfl⟩⟩
    refine ⟨_, rfl, ?_⟩
    refine hK.out _ _ ⟨s0, s1, s2, s3⟩ (fun hHeld => ?_)
    clear hK K
    refine norm_ (a' := ?_) ?_ ?_
    rotate_left
    · show Act.put _ (some 9) _ = _
      simp only [Act.put, List.setIfInBounds_toArray, List.set_cons_zero, List.set_cons_succ, i64_w, i32_w]
      rfl
    refine one_ (i := 9) (N := some 15) #[true, true, true, true, true, true, true, true, true, true, false, false] rfl rfl (by kernel_rfl) (by decide) (fun K hK => ?_)
    obtain ⟨s0, s1, s2, s3⟩ := hHeld
    refine goesT_ #[] #[.slice A1 fl c1, .int .i64 (n : Int)] Try.func57 (by kernel_rfl) rfl #[.slice A1 fl c1, .int .i64 (n : Int)] rfl (by rfl) rfl rfl (by rfl) (by simp only [List.map_toArray, List.map_cons, List.map_nil]; rfl) ?_
    with_reducible refine (K2.out _ (by repeat (first | exact D4.out | apply Drawn0.step))).mono ?_
    rintro e w4 ⟨rfl, ⟨nd2, rfl⟩⟩
    refine ⟨_, rfl, ?_⟩
    refine hK.out _ _ ⟨s0, s1, s2, s3⟩ (fun hHeld => ?_)
    clear hK K
    refine norm_ (a' := ?_) ?_ ?_
    rotate_left
    · show Act.put _ (some 15) _ = _
      simp only [Act.put, List.setIfInBounds_toArray, List.set_cons_zero, List.set_cons_succ, i64_w, i32_w]
      rfl
    refine pure_ (i := 10) (N := some 16) (v := ?_) (a' := ?_) #[true, true, true, true, true, true, true, true, true, true, true, false] rfl rfl (by kernel_rfl) (fun _ _ _ h => h) (Or.inl ⟨by rfl, ?_⟩) ?_ ?_
    rotate_left
    · intro w'
      go_simp
      with_reducible rfl
    rotate_left
    · simp only [Act.put, List.setIfInBounds_toArray, List.set_cons_zero, List.set_cons_succ, i64_w, i32_w]
      rfl
    refine pure_ (i := 11) (N := some 5) (v := ?_) (a' := ?_) #[true, true, true, true, true, true, true, true, true, true, true, true] rfl rfl (by kernel_rfl) (fun _ _ _ h => h) (Or.inl ⟨by rfl, ?_⟩) ?_ ?_
    rotate_left
    · intro w'
      go_simp
      with_reducible rfl
    rotate_left
    · simp only [Act.put, List.setIfInBounds_toArray, List.set_cons_zero, List.set_cons_succ, i64_w, i32_w]
      rfl
    refine done_ (by kernel_rfl) ?_

    go_wp2
    go_ret
    exact ⟨by first | rfl | simp, by repeat (first | exact D4.out | apply Drawn0.step)⟩
  · have hd : decide (a ≠ b) = true := by simpa using hab
    rw [hd]
    have hne : a.toList ≠ b.toList := fun e => hab (bytes_ext _ _ e)
    have e1 : (a.toList != b.toList) = true := bne_iff_ne.mpr hne
    have e2 : (a.toList == b.toList) = false := beq_eq_false_iff_ne.mpr hne
    clear hne hab
    go_enter Try.func73, Try.ntmps73
    go_wp2
    obtain ⟨W4, hW4⟩ : ∃ W4, W4 = W.drew := ⟨_, rfl⟩
    have D4 : Aside0 (Drawn0 W W.drew) := ⟨⟨1, rfl⟩⟩
    rw [← hW4] at D4
    refine start_ (n := 12) (S := fun w' => w'.cell? ⟨b2, 0, none⟩ = some (.func (.func 57) #[] #[]) ∧ w'.cell? ⟨b8, 0, none⟩ = some (.int .i64 (n : Int)) ∧ w'.cell? ⟨b3, 0, none⟩ = some (.slice (some ad) l.length c) ∧ w'.cell? ad = some (.slice A1 fl c1)) (ds := []) #[false, false, false, false, false, false, false, false, false, false, false, false] (by kernel_rfl) rfl rfl ⟨h2, h8, h3, hx⟩ (fun hHeld => ?_)
    rw [← hW4] at hHeld ⊢
    clear hW4 h2 h8 h3 hx
    refine pure_ (i := 1) (N := some 7) (v := ?_) (a' := ?_) #[false, true, false, false, false, false, false, false, false, false, false, false] rfl rfl (by kernel_rfl) (fun _ _ _ h => h) (Or.inl ⟨by rfl, ?_⟩) ?_ ?_
    rotate_left
    · intro w'
      go_simp
      with_reducible rfl
    rotate_left
    · simp only [Act.put, List.setIfInBounds_toArray, List.set_cons_zero, List.set_cons_succ, i64_w, i32_w]
      rfl
    refine take_ (i := 0) (N := some 6) (v := ?_) (a' := ?_) #[true, true, false, false, false, false, false, false, false, false, false, false] rfl rfl (by kernel_rfl) (fun _ _ _ h => h) (Or.inl ⟨by rfl, ?_⟩) hHeld ?_ ?_
    rotate_left
    · rintro w' ⟨s0, s1, s2, s3⟩
      go_simp
      with_reducible rfl
    rotate_left
    · simp only [Act.put, List.setIfInBounds_toArray, List.set_cons_zero, List.set_cons_succ, i64_w, i32_w]
      rfl
    refine take_ (i := 2) (N := some 8) (v := ?_) (a' := ?_) #[true, true, true, false, false, false, false, false, false, false, false, false] rfl rfl (by kernel_rfl) (fun _ _ _ h => h) (Or.inl ⟨by rfl, ?_⟩) hHeld ?_ ?_
    rotate_left
    · rintro w' ⟨s0, s1, s2, s3⟩
      go_simp
      with_reducible rfl
    rotate_left
    · simp only [Act.put, List.setIfInBounds_toArray, List.set_cons_zero, List.set_cons_succ, i64_w, i32_w]
      rfl
    refine take_ (i := 4) (N := some 10) (v := ?_) (a' := ?_) #[true, true, true, false, true, false, false, false, false, false, false, false] rfl rfl (by kernel_rfl) (fun _ _ _ h => h) (Or.inl ⟨by rfl, ?_⟩) hHeld ?_ ?_
    rotate_left
    · rintro w' ⟨s0, s1, s2, s3⟩
      go_simp
      with_reducible rfl
    rotate_left
    · simp only [Act.put, List.setIfInBounds_toArray, List.set_cons_zero, List.set_cons_succ, i64_w, i32_w]
      rfl
    refine take_ (i := 5) (N := some 11) (v := ?_) (a' := ?_) #[true, true, true, false, true, true, false, false, false, false, false, false] rfl rfl (by kernel_rfl) (fun _ _ _ h => h) (Or.inl ⟨by rfl, ?_⟩) hHeld ?_ ?_
    rotate_left
    · rintro w' ⟨s0, s1, s2, s3⟩
      go_simp
      with_reducible rfl
    rotate_left
    · simp only [Act.put, List.setIfInBounds_toArray, List.set_cons_zero, List.set_cons_succ, i64_w, i32_w]
      rfl
    refine pure_ (i := 6) (N := some 12) (v := ?_) (a' := ?_) #[true, true, true, false, true, true, true, false, false, false, false, false] rfl rfl (by kernel_rfl) (fun _ _ _ h => h) (Or.inl ⟨by rfl, ?_⟩) ?_ ?_
    rotate_left
    · intro w'
      go_simp
      with_reducible rfl
    rotate_left
    · simp only [Act.put, List.setIfInBounds_toArray, List.set_cons_zero, List.set_cons_succ, i64_w, i32_w]
      rfl
    refine take_ (i := 7) (N := some 13) (v := ?_) (a' := ?_) #[true, true, true, false, true, true, true, true, false, false, false, false] rfl rfl (by kernel_rfl) (fun _ _ _ h => h) (Or.inl ⟨by rfl, ?_⟩) hHeld ?_ ?_
    rotate_left
    · rintro w' ⟨s0, s1, s2, s3⟩
      go_simp
      with_reducible rfl
    rotate_left
    · simp only [Act.put, List.setIfInBounds_toArray, List.set_cons_zero, List.set_cons_succ, i64_w, i32_w]
      rfl
    refine take_ (i := 8) (N := some 14) (v := ?_) (a' := ?_) #[true, true, true, false, true, true, true, true, true, false, false, false] rfl rfl (by kernel_rfl) (fun _ _ _ h => h) (Or.inl ⟨by rfl, ?_⟩) hHeld ?_ ?_
    rotate_left
    · rintro w' ⟨s0, s1, s2, s3⟩
      go_simp
      with_reducible rfl
    rotate_left
    · simp only [Act.put, List.setIfInBounds_toArray, List.set_cons_zero, List.set_cons_succ, i64_w, i32_w]
      rfl
    refine one_ (i := 3) (N := some 9) #[true, true, true, true, true, true, true, true, true, false, false, false] rfl rfl (by kernel_rfl) (by decide) (fun K hK => ?_)
    obtain ⟨s0, s1, s2, s3⟩ := hHeld
    refine goesT_ #[] #[.slice Ak kl ck, .int .i64 (n : Int)] Try.func57 (by kernel_rfl) rfl #[.slice Ak kl ck, .int .i64 (n : Int)] rfl (by rfl) rfl rfl (by rfl) (by simp only [List.map_toArray, List.map_cons, List.map_nil]; rfl) ?_
    with_reducible refine (K1.out _ D4.out).mono ?_
    rintro e w3 ⟨rfl, ⟨nd, rfl⟩⟩
    refine ⟨_, rfl, ?_⟩
    refine hK.out _ _ ⟨s0, s1, s2, s3⟩ (fun hHeld => ?_)
    clear hK K
    refine norm_ (a' := ?_) ?_ ?_
    rotate_left
    · show Act.put _ (some 9) _ = _
      simp only [Act.put, List.setIfInBounds_toArray, List.set_cons_zero, List.set_cons_succ, i64_w, i32_w]
      rfl
    refine one_ (i := 9) (N := some 15) #[true, true, true, true, true, true, true, true, true, true, false, false] rfl rfl (by kernel_rfl) (by decide) (fun K hK => ?_)
    obtain ⟨s0, s1, s2, s3⟩ := hHeld
    refine goesT_ #[] #[.slice A1 fl c1, .int .i64 (n : Int)] Try.func57 (by kernel_rfl) rfl #[.slice A1 fl c1, .int .i64 (n : Int)] rfl (by rfl) rfl rfl (by rfl) (by simp only [List.map_toArray, List.map_cons, List.map_nil]; rfl) ?_
    with_reducible refine (K2.out _ (by repeat (first | exact D4.out | apply Drawn0.step))).mono ?_
    rintro e w4 ⟨rfl, ⟨nd2, rfl⟩⟩
    refine ⟨_, rfl, ?_⟩
    refine hK.out _ _ ⟨s0, s1, s2, s3⟩ (fun hHeld => ?_)
    clear hK K
    refine norm_ (a' := ?_) ?_ ?_
    rotate_left
    · show Act.put _ (some 15) _ = _
      simp only [Act.put, List.setIfInBounds_toArray, List.set_cons_zero, List.set_cons_succ, i64_w, i32_w]
      rfl
    refine pure_ (i := 10) (N := some 16) (v := ?_) (a' := ?_) #[true, true, true, true, true, true, true, true, true, true, true, false] rfl rfl (by kernel_rfl) (fun _ _ _ h => h) (Or.inl ⟨by rfl, ?_⟩) ?_ ?_
    rotate_left
    · intro w'
      go_simp
      with_reducible rfl
    rotate_left
    · simp only [Act.put, List.setIfInBounds_toArray, List.set_cons_zero, List.set_cons_succ, i64_w, i32_w]
      rfl
    refine pure_ (i := 11) (N := some 5) (v := ?_) (a' := ?_) #[true, true, true, true, true, true, true, true, true, true, true, true] rfl rfl (by kernel_rfl) (fun _ _ _ h => h) (Or.inl ⟨by rfl, ?_⟩) ?_ ?_
    rotate_left
    · intro w'
      go_simp
      with_reducible rfl
    rotate_left
    · simp only [Act.put, List.setIfInBounds_toArray, List.set_cons_zero, List.set_cons_succ, i64_w, i32_w]
      rfl
    refine done_ (by kernel_rfl) ?_

    go_wp2
    go_ret
    exact ⟨by first | rfl | simp, by repeat (first | exact D4.out | apply Drawn0.step)⟩

set_option maxHeartbeats 4000000 in
set_option maxRecDepth 100000 in
theorem index73_57 (W : World) (b2 b8 b3 : Nat) (A : Option Addr) (c : Nat) (l : List (List ByteArray)) (n : Nat) (h2 : W.cell? ⟨b2, 0, none⟩ = some (.func (.func 57) #[] #[])) (h8 : W.cell? ⟨b8, 0, none⟩ = some (.int .i64 (n : Int))) (h3 : W.cell? ⟨b3, 0, none⟩ = some (.slice A l.length c))
    (hl : Kd.C (Kd.slice 9 Kd.string) W A l.length l) (hp : 0 < l.length) (hn : ∀ k ∈ l, n < k.length ∧ k.length ≤ 1000000) :
    Calls Try.prog 74 #[.slice A l.length c, .func (.func 73) #[] #[.pointer (some ⟨b2, 0, none⟩), .pointer (some ⟨b8, 0, none⟩), .pointer (some ⟨b3, 0, none⟩)]] W (IdxPost (fun k => decide (atF k n ≠ atF (rd_L1 l 0) n)) l W) := by
  have hl0 : n < (rd_L1 l 0).length ∧ (rd_L1 l 0).length ≤ 1000000 := by
    have e : rd_L1 l 0 = l[0] := by simp [rd_L1, List.getD_eq_getElem?_getD, hp]
    rw [e]; exact hn _ (List.getElem_mem hp)
  have HL := Aside0.mk hl
  have HM := Aside0.mk hl.2.1
  have HP := Aside0.mk hp
  have HN := Aside0.mk hn
  have HL0 := Aside0.mk hl0
  have H2 := Aside0.mk h2
  have H8 := Aside0.mk h8
  have H3 := Aside0.mk h3
  clear hl hn hl0 h2 h8 h3 hp
  go_enter Try.func74, Try.ntmps74
  go_wp2
  repeat (go_quiet (fail); try go_wp2)
  go_loopg [8] l.length (fun kq v8 w' => ∃ i : Nat, v8 = .int .i64 (i : Int) ∧ Aside0 (i ≤ l.length ∧ kq = l.length - i) ∧ Aside0 ((l.take i).any (fun k => decide (atF k n ≠ atF (rd_L1 l 0) n)) = false) ∧ Drawn0 W w')
  case atStart => exact ⟨0, rfl, ⟨Nat.zero_le _, rfl⟩, ⟨by simp⟩, Drawn0.refl _⟩
  case round =>
    obtain ⟨i, rfl, HI, HA, ⟨m1, rfl⟩⟩ := hrel
    by_cases c4 : i < l.length
    · have c4b0 : decide ((i : Int) < (l.length : Int)) = true := decide_eq_true (by omega)
      have c4b1 : decide (i < l.length) = true := decide_eq_true c4
      obtain ⟨z, g0⟩ : ∃ z, l[i]? = some z := ⟨_, List.getElem?_eq_getElem c4⟩
      obtain ⟨ad, A2, c2, rfl, hx, hl2, hi2⟩ := C_row HL.out i z g0
      have G0 := Aside0.mk g0
      have HR2 := Aside0.mk hi2
      have HC2 := Aside0.mk hl2
      have HZ := Aside0.mk (HN.out z (List.mem_of_getElem? g0))
      have HW2 : Aside0 (wrap64 ((i : Int) + 1) = ((i + 1 : Nat) : Int)) := ⟨by have := HM.out; unfold wrap64; omega⟩
      clear hi2 hl2 g0
      cases hd : decide (atF z n ≠ atF (rd_L1 l 0) n) with
      | true =>
        have HD := Aside0.mk hd
        clear hd
        go_wp2_with (go_at_call 73; (with_reducible refine (alike73_57 _ b2 b8 b3 (some ad) c l n A2 c2 z ?s2 ?s8 ?s3 ?sl HP.out ?sk HC2.out HZ.out.1 HL0.out.1 HZ.out.2 HL0.out.2).mono ?_); (case s2 => exact H2.out); (case s8 => exact H8.out); (case s3 => exact H3.out); (case sl => with_reducible exact Kd.C_drewN HL.out _); (case sk => with_reducible exact Kd.C_drewN HR2.out _); rintro e w' ⟨he, ⟨nd, rfl⟩⟩; rw [HD.out] at he; subst he)
        go_ret
        exact ⟨i, rfl, by rw [any_found _ _ i z G0.out HD.out]; simp, ⟨⟨_, rfl⟩⟩⟩
      | false =>
        have HD := Aside0.mk hd
        clear hd
        go_wp2_with (go_at_call 73; (with_reducible refine (alike73_57 _ b2 b8 b3 (some ad) c l n A2 c2 z ?s2 ?s8 ?s3 ?sl HP.out ?sk HC2.out HZ.out.1 HL0.out.1 HZ.out.2 HL0.out.2).mono ?_); (case s2 => exact H2.out); (case s8 => exact H8.out); (case s3 => exact H3.out); (case sl => with_reducible exact Kd.C_drewN HL.out _); (case sk => with_reducible exact Kd.C_drewN HR2.out _); rintro e w' ⟨he, ⟨nd, rfl⟩⟩; rw [HD.out] at he; subst he)
        go_roundg (l.length - (i + 1))
        case measure => have := HI.out; omega
        case rel => exact ⟨i + 1, by first | rfl | (simp only [i64_w]; rw [HW2.out]) | (rw [HW2.out]), ⟨by omega, rfl⟩, ⟨any_take_succ _ _ i z G0.out HA.out HD.out⟩, ⟨⟨_, rfl⟩⟩⟩
    · have c4b0 : decide ((i : Int) < (l.length : Int)) = false := decide_eq_false (by omega)
      have c4b1 : decide (i < l.length) = false := decide_eq_false c4
      have HQ := Aside0.mk (List.take_of_length_le (l := l) (i := i) (by omega))
      go_wp2
      repeat (go_quiet (fail); try go_wp2)
      go_ret
      exact ⟨-1, rfl, by have := HA.out; rw [HQ.out] at this; rw [this]; rfl, ⟨⟨_, rfl⟩⟩⟩
theorem contains73_57 (W : World) (b2 b8 b3 : Nat) (A : Option Addr) (c : Nat) (l : List (List ByteArray)) (n : Nat) (h2 : W.cell? ⟨b2, 0, none⟩ = some (.func (.func 57) #[] #[])) (h8 : W.cell? ⟨b8, 0, none⟩ = some (.int .i64 (n : Int))) (h3 : W.cell? ⟨b3, 0, none⟩ = some (.slice A l.length c))
    (hl : Kd.C (Kd.slice 9 Kd.string) W A l.length l) (hp : 0 < l.length) (hn : ∀ k ∈ l, n < k.length ∧ k.length ≤ 1000000) :
    Calls Try.prog 60 #[.slice A l.length c, .func (.func 73) #[] #[.pointer (some ⟨b2, 0, none⟩), .pointer (some ⟨b8, 0, none⟩), .pointer (some ⟨b3, 0, none⟩)]] W fun e w' => e = .returned (.bool (differB atF l n)) ∧ Drawn0 W w' := by
  have HC := Aside0.mk (index73_57 W b2 b8 b3 A c l n h2 h8 h3 hl hp hn)
  clear h2 h8 h3 hl hn hp
  go_enter Try.func60, Try.ntmps60
  go_wp2_with (go_at_call 74; (with_reducible refine HC.out.mono ?_); rintro e w' ⟨m, rfl, hm, ⟨nd, rfl⟩⟩; have HN := Aside0.mk hm; clear hm)
  go_ret
  exact ⟨by unfold differB; rw [← HN.out]; rfl, ⟨⟨_, rfl⟩⟩⟩

set_option maxHeartbeats 4000000 in
set_option maxRecDepth 100000 in
theorem alike56_57 (w : World) (A : Option Addr) (c : Nat) (l : List (List ByteArray)) (hl : Kd.C (Kd.slice 9 Kd.string) w A l.length l) (hc : l.length ≤ c) (hp : 0 < l.length) (hs : l.length ≤ 1000000) (hn : ∀ k ∈ l, k.length ≤ 1000000) :
    Calls Try.prog 56 #[.func (.func 57) #[] #[], .slice A l.length c] w fun e w' => e = .returned (.int .i64 (alikeG atF l (leastL (rd_L1 l 0) l) 0 : Int)) ∧ Below w.heap.size w w' := by
  obtain ⟨ad, A1, c1, rfl, hx0, hl1, hC1⟩ := at_L1 hl 0 (by omega) (by omega)
  have hx0 : w.cell? ad = some (.slice A1 (rd_L1 l 0).length c1) := hx0
  have hl0 : (rd_L1 l 0).length ≤ 1000000 := by
    have e : rd_L1 l 0 = l[0] := by simp [rd_L1, List.getD_eq_getElem?_getD, hp]
    rw [e]; exact hn _ (List.getElem_mem hp)
  obtain ⟨W1, hW1⟩ : ∃ W1, (w.alloc (.cells #[.func (.func 57) #[] #[]] 69)).alloc (.cells #[.slice (some ad) l.length c] 23) = W1 := ⟨_, rfl⟩
  have hB : Below w.heap.size w W1 := by rw [← hW1]; exact below_alloc (below_alloc (Below.refl _ _) _) _
  have hb2 : W1.heap[w.heap.size]? = some (.cells #[.func (.func 57) #[] #[]] 69 (0, 0)) := by rw [← hW1]; exact blk_later (Go.heap_alloc_new w _) (below_alloc (Below.refl _ _) _)
  have hb3 : W1.heap[w.heap.size + 1]? = some (.cells #[.slice (some ad) l.length c] 23 (0, 0)) := by
    rw [← hW1]
    have := Go.heap_alloc_new (w.alloc (.cells #[.func (.func 57) #[] #[]] 69)) (.cells #[.slice (some ad) l.length c] 23)
    rw [World.size_alloc] at this
    exact this
  have hsz : W1.heap.size = w.heap.size + 2 := by rw [← hW1]; simp
  have k2 : W1.cell? ⟨w.heap.size, 0, none⟩ = some (.func (.func 57) #[] #[]) := blk_cell hb2 0
  have k3 : W1.cell? ⟨w.heap.size + 1, 0, none⟩ = some (.slice (some ad) l.length c) := blk_cell hb3 0
  have hx : W1.cell? ad = some (.slice A1 (rd_L1 l 0).length c1) := (hB.cell (World.block_lt_of_cell? w _ hx0)).trans hx0
  have HL := Aside0.mk hl
  have HP := Aside0.mk hp
  have HS := Aside0.mk hs
  have HN := Aside0.mk hn
  have HL0 := Aside0.mk hl0
  have HB := Aside0.mk hB
  have HB2 := Aside0.mk hb2
  have HB3 := Aside0.mk hb3
  have HSZ := Aside0.mk hsz
  have HWQ := Aside0.mk hW1
  have hp' : (0 : Int) < (l.length : Int) := by omega
  clear hl hc hn hB hb2 hb3 hsz hx0 hl1 hC1 hs hl0
  obtain ⟨f, hf⟩ : ∃ f, rd_L1 l 0 = f := ⟨_, rfl⟩
  rw [hf] at hx HL0 ⊢
  have HF := Aside0.mk hf
  clear hf
  go_enter Try.func56, Try.ntmps56
  go_wp2
  go_loopg [5, 15] l.length (fun kq v5 v15 wr => ∃ i : Nat, v15 = .int .i64 (i : Int) ∧ v5 = .int .i64 (leastL f (l.take i) : Int) ∧ W1 = wr ∧ Aside0 (i ≤ l.length ∧ kq = l.length - i))
  case atStart => exact ⟨0, rfl, by simp [leastL], rfl, ⟨Nat.zero_le _, rfl⟩⟩
  case round =>
    obtain ⟨i, rfl, rfl, rfl, HI⟩ := hrel
    by_cases c4 : i < l.length
    · have c4b0 : decide ((i : Int) < (l.length : Int)) = true := decide_eq_true (by omega)
      have c4b1 : decide (i < l.length) = true := decide_eq_true c4
      obtain ⟨z, g0⟩ : ∃ z, l[i]? = some z := ⟨_, List.getElem?_eq_getElem c4⟩
      obtain ⟨ae, A2, c2, e2, hx2, hl2, hi2⟩ := C_row (Kd.C_below HL.out HB.out) i z g0
      injection e2 with e2
      subst e2
      have HSN := Aside0.mk (leastL_snoc f l i z g0)
      obtain ⟨m, hm⟩ : ∃ m, leastL f (l.take i) = m := ⟨_, rfl⟩
      rw [hm] at HSN ⊢
      have HMN : Aside0 (mn (m : Int) (z.length : Int) = ((min m z.length : Nat) : Int)) := ⟨by unfold mn; omega⟩
      have HW2 : Aside0 (wrap64 ((i : Int) + 1) = ((i + 1 : Nat) : Int)) := ⟨by have := HS.out; unfold wrap64; omega⟩
      clear hi2 hl2 g0 hm
      go_wp2
      all_goals
        go_roundg (l.length - (i + 1))
        case measure => have := HI.out; omega
        case rel => exact ⟨i + 1, by first | rfl | (simp only [i64_w]; rw [HW2.out]) | (rw [HW2.out]), by rw [HSN.out]; first | rfl | (rw [HMN.out]) | (rw [Nat.min_eq_left (by omega)]) | (rw [Nat.min_eq_right (by omega)]), rfl, ⟨by omega, rfl⟩⟩
    · have hil : l.take i = l := List.take_of_length_le (by omega)
      have c4b0 : decide ((i : Int) < (l.length : Int)) = false := decide_eq_false (by omega)
      have c4b1 : decide (i < l.length) = false := decide_eq_false c4
      rw [hil]
      obtain ⟨m, hm⟩ : ∃ m, leastL f l = m := ⟨_, rfl⟩
      rw [hm]
      have HML : Aside0 (∀ k ∈ l, m ≤ k.length) := ⟨by rw [← hm]; exact (leastL_le f l).2⟩
      have HMF : Aside0 (m ≤ f.length) := ⟨by rw [← hm]; exact (leastL_le f l).1⟩
      have HMQ := Aside0.mk hm
      clear hil c4 HI hm
      have hb8 := Go.heap_alloc_new W1 (.cells #[.int .i64 0] 3)
      rw [HSZ.out] at hb8
      have HB8 := Aside0.mk hb8
      have HC2 := Aside0.mk (blk_later HB2.out (below_alloc (Below.refl _ _) (.cells #[.int .i64 0] 3)))
      have HC3 := Aside0.mk (blk_later HB3.out (below_alloc (Below.refl _ _) (.cells #[.int .i64 0] 3)))
      have HBA := Aside0.mk (below_alloc HB.out (.cells #[.int .i64 0] 3))
      have hsz := HSZ.out
      clear hb8
      go_wp2
      go_loopg [] m (fun kq wr => ∃ n : Nat, Aside0 (n ≤ m ∧ kq = m - n) ∧ Aside0 (wr.heap[w.heap.size]? = some (.cells #[.func (.func 57) #[] #[]] 69 (0, 0))) ∧ Aside0 (wr.heap[w.heap.size + 1]? = some (.cells #[.slice (some ad) l.length c] 23 (0, 0))) ∧ Aside0 (wr.heap[w.heap.size + 2]? = some (.cells #[.int .i64 (n : Int)] 3 (0, 0))) ∧ Aside0 (Below w.heap.size w wr) ∧ Aside0 (alikeG atF l m 0 = alikeG atF l (m - n) n))
      case atStart => exact ⟨0, ⟨Nat.zero_le _, rfl⟩, HC2, HC3, HB8, HBA, ⟨rfl⟩⟩
      case round =>
        clear HC2 HC3 HB8 HBA
        obtain ⟨n, HI, D2, D3, D8, DB, DG⟩ := hrel
        have q2 : wr.cell? ⟨w.heap.size, 0, none⟩ = some (.func (.func 57) #[] #[]) := blk_cell D2.out 0
        have q3 : wr.cell? ⟨w.heap.size + 1, 0, none⟩ = some (.slice (some ad) l.length c) := blk_cell D3.out 0
        have q8 : wr.cell? ⟨w.heap.size + 2, 0, none⟩ = some (.int .i64 (n : Int)) := blk_cell D8.out 0
        have f8 : wr.frozen? ⟨w.heap.size + 2, 0, none⟩ = false := blk_frozen D8.out 0
        by_cases c5 : n < m
        · have c5b0 : decide ((n : Int) < (m : Int)) = true := decide_eq_true (by omega)
          have c5b1 : decide (n < m) = true := decide_eq_true c5
          have Q2 := Aside0.mk q2
          have Q3 := Aside0.mk q3
          have Q8 := Aside0.mk q8
          have HNK : Aside0 (∀ k ∈ l, n < k.length ∧ k.length ≤ 1000000) := ⟨fun k hk => ⟨by have := HML.out k hk; omega, HN.out k hk⟩⟩
          have HST : Aside0 (alikeG atF l (m - n) n = if differB atF l n = true then n else alikeG atF l (m - (n + 1)) (n + 1)) := ⟨by
            obtain ⟨d, hd⟩ : ∃ d, m - n = d + 1 := ⟨m - n - 1, by omega⟩
            rw [hd, alikeG, show m - (n + 1) = d from by omega]⟩
          have HW2 : Aside0 (wrap64 ((n : Int) + 1) = ((n + 1 : Nat) : Int)) := ⟨by have := HMF.out; have := HL0.out; unfold wrap64; omega⟩
          have HLR := Aside0.mk (Kd.C_below HL.out DB.out)
          cases hd : differB atF l n with
          | true =>
            have HD := Aside0.mk hd
            rw [HD.out, if_pos rfl] at HST
            clear hd
            go_wp2_with (go_at_call 60; (with_reducible refine (contains73_57 _ w.heap.size (w.heap.size + 2) (w.heap.size + 1) (some ad) c l n ?s2 ?s8 ?s3 ?sl HP.out HNK.out).mono ?_); (case s2 => exact Q2.out); (case s8 => exact Q8.out); (case s3 => exact Q3.out); (case sl => exact HLR.out); rintro e w' ⟨he, ⟨nd, rfl⟩⟩; rw [HD.out] at he; subst he)
            go_ret
            exact ⟨by rw [HMQ.out, DG.out, HST.out]; rfl, pw_below_drewN DB.out _⟩
          | false =>
            have HD := Aside0.mk hd
            rw [HD.out, if_neg (by decide)] at HST
            clear hd
            go_wp2_with (go_at_call 60; (with_reducible refine (contains73_57 _ w.heap.size (w.heap.size + 2) (w.heap.size + 1) (some ad) c l n ?s2 ?s8 ?s3 ?sl HP.out HNK.out).mono ?_); (case s2 => exact Q2.out); (case s8 => exact Q8.out); (case s3 => exact Q3.out); (case sl => exact HLR.out); rintro e w' ⟨he, ⟨nd, rfl⟩⟩; rw [HD.out] at he; subst he)
            go_roundg (m - (n + 1))
            case measure => have := HI.out; omega
            case rel =>
              refine ⟨n + 1, ⟨by omega, rfl⟩, ⟨(Below.heap_setCell _ ⟨w.heap.size + 2, 0, none⟩ _ w.heap.size (by show w.heap.size ≠ w.heap.size + 2; omega)).trans D2.out⟩, ⟨(Below.heap_setCell _ ⟨w.heap.size + 2, 0, none⟩ _ (w.heap.size + 1) (by show w.heap.size + 1 ≠ w.heap.size + 2; omega)).trans D3.out⟩, ⟨?_⟩, ⟨(pw_below_drewN DB.out _).setCell (p := ⟨w.heap.size + 2, 0, none⟩) (by show w.heap.size ≤ w.heap.size + 2; omega) _⟩, ⟨by rw [DG.out, HST.out]⟩⟩
              have hs := (show Boxed (wr.drewN nd) (w.heap.size + 2) 3 (.int .i64 (n : Int)) from D8.out).set (.int .i64 ((n + 1 : Nat) : Int))
              have := hs
              first | exact hs | (simp only [i64_w]; rw [HW2.out]; exact hs) | (rw [HW2.out]; exact hs)
        · have c5b0 : decide ((n : Int) < (m : Int)) = false := decide_eq_false (by omega)
          have c5b1 : decide (n < m) = false := decide_eq_false c5
          have HNM : Aside0 (alikeG atF l (m - n) n = n) := ⟨by rw [show m - n = 0 from by omega]; rfl⟩
          go_wp2
          repeat (go_quiet (fail); try go_wp2)
          go_ret
          exact ⟨by rw [HMQ.out, DG.out, HNM.out]; rfl, DB.out⟩

set_option maxHeartbeats 4000000 in
set_option maxRecDepth 100000 in
theorem alike73_59 (W : World) (b2 b8 b3 : Nat) (A : Option Addr) (c : Nat) (l : List (List ByteArray)) (n : Nat) (Ak : Option Addr) (ck : Nat) (k : List ByteArray) (h2 : W.cell? ⟨b2, 0, none⟩ = some (.func (.func 59) #[] #[])) (h8 : W.cell? ⟨b8, 0, none⟩ = some (.int .i64 (n : Int))) (h3 : W.cell? ⟨b3, 0, none⟩ = some (.slice A l.length c))
    (hl : Kd.C (Kd.slice 9 Kd.string) W A l.length l) (hp : 0 < l.length) (hk : Kd.C Kd.string W Ak k.length k) (hkc : k.length ≤ ck) (hkn : n < k.length) (hfn : n < (rd_L1 l 0).length) (hk6 : k.length ≤ 1000000) (hf6 : (rd_L1 l 0).length ≤ 1000000) :
    Calls Try.prog 73 #[.slice Ak k.length ck, .pointer (some ⟨b2, 0, none⟩), .pointer (some ⟨b8, 0, none⟩), .pointer (some ⟨b3, 0, none⟩)] W fun e w' => e = .returned (.bool (decide (atB k n ≠ atB (rd_L1 l 0) n))) ∧ Drawn0 W w' := by
  obtain ⟨ad, A1, c1, rfl, hx0, hl1, hC1⟩ := at_L1 hl 0 (by omega) (by omega)
  have hx : W.cell? ad = some (.slice A1 (rd_L1 l 0).length c1) := hx0
  have K1 := Aside0.mk (fun W' (h : Drawn0 W W') => at59_c W' Ak ck k n (by obtain ⟨m, rfl⟩ := h; exact Kd.C_drewN hk m) hkn hk6)
  have K2 := Aside0.mk (fun W' (h : Drawn0 W W') => at59_c W' A1 c1 (rd_L1 l 0) n (by obtain ⟨m, rfl⟩ := h; exact Kd.C_drewN hC1 m) hfn hf6)
  have hp' : (0 : Int) < (l.length : Int) := by omega
  clear hl hk hkc hkn hfn hk6 hf6 hl1 hC1 hx0
  obtain ⟨a, ha⟩ : ∃ a, atB k n = a := ⟨_, rfl⟩
  obtain ⟨b, hb⟩ : ∃ b, atB (rd_L1 l 0) n = b := ⟨_, rfl⟩
  rw [ha] at K1
  rw [hb] at K2
  rw [ha, hb]
  clear ha hb
  generalize (rd_L1 l 0).length = fl at K2 hx
  generalize k.length = kl at K1
  by_cases hab : a = b
  · subst hab
    have hd : decide (a ≠ a) = false := by simp
    rw [hd]
    go_enter Try.func73, Try.ntmps73
    go_wp2
    obtain ⟨W4, hW4⟩ : ∃ W4, W4 = W.drew := ⟨_, rfl⟩
    have D4 : Aside0 (Drawn0 W W.drew) := ⟨⟨1, rfl⟩⟩
    rw [← hW4] at D4
    refine start_ (n := 12) (S := fun w' => w'.cell? ⟨b2, 0, none⟩ = some (.func (.func 59) #[] #[]) ∧ w'.cell? ⟨b8, 0, none⟩ = some (.int .i64 (n : Int)) ∧ w'.cell? ⟨b3, 0, none⟩ = some (.slice (some ad) l.length c) ∧ w'.cell? ad = some (.slice A1 fl c1)) (ds := []) #[false, false, false, false, false, false, false, false, false, false, false, false] (by kernel_rfl) rfl rfl ⟨h2, h8, h3, hx⟩ (fun hHeld => ?_)
    rw [← hW4] at hHeld ⊢
    clear hW4 h2 h8 h3 hx
    refine pure_ (i := 1) (N := some 7) (v := ?_) (a' := ?_) #[false, true, false, false, false, false, false, false, false, false, false, false] rfl rfl (by kernel_rfl) (fun _ _ _ h => h) (Or.inl ⟨by rfl, ?_⟩) ?_ ?_
    rotate_left
    · intro w'
      go_simp
      with_reducible rfl
    rotate_left
    · simp only [Act.put, List.setIfInBounds_toArray, List.set_cons_zero, List.set_cons_succ, i64_w, i32_w]
      rfl
    refine take_ (i := 0) (N := some 6) (v := ?_) (a' := ?_) #[true, true, false, false, false, false, false, false, false, false, false, false] rfl rfl (by kernel_rfl) (fun _ _ _ h => h) (Or.inl ⟨by rfl, ?_⟩) hHeld ?_ ?_
    rotate_left
    · rintro w' ⟨s0, s1, s2, s3⟩
      go_simp
      with_reducible rfl
    rotate_left
    · simp only [Act.put, List.setIfInBounds_toArray, List.set_cons_zero, List.set_cons_succ, i64_w, i32_w]
      rfl
    refine take_ (i := 2) (N := some 8) (v := ?_) (a' := ?_) #[true, true, true, false, false, false, false, false, false, false, false, false] rfl rfl (by kernel_rfl) (fun _ _ _ h => h) (Or.inl ⟨by rfl, ?_⟩) hHeld ?_ ?_
    rotate_left
    · rintro w' ⟨s0, s1, s2, s3⟩
      go_simp
      with_reducible rfl
    rotate_left
    · simp only [Act.put, List.setIfInBounds_toArray, List.set_cons_zero, List.set_cons_succ, i64_w, i32_w]
      rfl
    refine take_ (i := 4) (N := some 10) (v := ?_) (a' := ?_) #[true, true, true, false, true, false, false, false, false, false, false, false] rfl rfl (by kernel_rfl) (fun _ _ _ h => h) (Or.inl ⟨by rfl, ?_⟩) hHeld ?_ ?_
    rotate_left
    · rintro w' ⟨s0, s1, s2, s3⟩
      go_simp
      with_reducible rfl
    rotate_left
    · simp only [Act.put, List.setIfInBounds_toArray, List.set_cons_zero, List.set_cons_succ, i64_w, i32_w]
      rfl
    refine take_ (i := 5) (N := some 11) (v := ?_) (a' := ?_) #[true, true, true, false, true, true, false, false, false, false, false, false] rfl rfl (by kernel_rfl) (fun _ _ _ h => h) (Or.inl ⟨by rfl, ?_⟩) hHeld ?_ ?_
    rotate_left
    · rintro w' ⟨s0, s1, s2, s3⟩
      go_simp
      with_reducible rfl
    rotate_left
    · simp only [Act.put, List.setIfInBounds_toArray, List.set_cons_zero, List.set_cons_succ, i64_w, i32_w]
      rfl
    refine pure_ (i := 6) (N := some 12) (v := ?_) (a' := ?_) #[true, true, true, false, true, true, true, false, false, false, false, false] rfl rfl (by kernel_rfl) (fun _ _ _ h => h) (Or.inl ⟨by rfl, ?_⟩) ?_ ?_
    rotate_left
    · intro w'
      go_simp
      with_reducible rfl
    rotate_left
    · simp only [Act.put, List.setIfInBounds_toArray, List.set_cons_zero, List.set_cons_succ, i64_w, i32_w]
      rfl
    refine take_ (i := 7) (N := some 13) (v := ?_) (a' := ?_) #[true, true, true, false, true, true, true, true, false, false, false, false] rfl rfl (by kernel_rfl) (fun _ _ _ h => h) (Or.inl ⟨by rfl, ?_⟩) hHeld ?_ ?_
    rotate_left
    · rintro w' ⟨s0, s1, s2, s3⟩
      go_simp
      with_reducible rfl
    rotate_left
    · simp only [Act.put, List.setIfInBounds_toArray, List.set_cons_zero, List.set_cons_succ, i64_w, i32_w]
      rfl
    refine take_ (i := 8) (N := some 14) (v := ?_) (a' := ?_) #[true, true, true, false, true, true, true, true, true, false, false, false] rfl rfl (by kernel_rfl) (fun _ _ _ h => h) (Or.inl ⟨by rfl, ?_⟩) hHeld ?_ ?_
    rotate_left
    · rintro w' ⟨s0, s1, s2, s3⟩
      go_simp
      with_reducible rfl
    rotate_left
    · simp only [Act.put, List.setIfInBounds_toArray, List.set_cons_zero, List.set_cons_succ, i64_w, i32_w]
      rfl
    refine one_ (i := 3) (N := some 9) #[true, true, true, true, true, true, true, true, true, false, false, false] rfl rfl (by kernel_rfl) (by decide) (fun K hK => ?_)
    obtain ⟨s0, s1, s2, s3⟩ := hHeld
    refine goesT_ #[] #[.slice Ak kl ck, .int .i64 (n : Int)] Try.func59 (by kernel_rfl) rfl #[.slice Ak kl ck, .int .i64 (n : Int)] rfl (by rfl) rfl rfl (by rfl) (by simp only [List.map_toArray, List.map_cons, List.map_nil]; rfl) ?_
    with_reducible refine (K1.out _ D4.out).mono ?_
    rintro e w3 ⟨rfl, ⟨nd, rfl⟩⟩
    refine ⟨_, rfl, ?_⟩
    refine hK.out _ _ ⟨s0, s1, s2, s3⟩ (fun hHeld => ?_)
    clear hK K
    refine norm_ (a' := ?_) ?_ ?_
    rotate_left
    · show Act.put _ (some 9) _ = _
      simp only [Act.put, List.setIfInBounds_toArray, List.set_cons_zero, List.set_cons_succ, i64_w, i32_w]
      rfl
    refine one_ (i := 9) (N := some 15) #[true, true, true, true, true, true, true, true, true, true, false, false] rfl rfl (by kernel_rfl) (by decide) (fun K hK => ?_)
    obtain ⟨s0, s1, s2, s3⟩ := hHeld
    refine goesT_ #[] #[.slice A1 fl c1, .int .i64 (n : Int)] Try.func59 (by kernel_rfl) rfl #[.slice A1 fl c1, .int .i64 (n : Int)] rfl (by rfl) rfl rfl (by rfl) (by simp only [List.map_toArray, List.map_cons, List.map_nil]; rfl) ?_
    with_reducible refine (K2.out _ (by repeat (first | exact D4.out | apply Drawn0.step))).mono ?_
    rintro e w4 ⟨rfl, ⟨nd2, rfl⟩⟩
    refine ⟨_, rfl, ?_⟩
    refine hK.out _ _ ⟨s0, s1, s2, s3⟩ (fun hHeld => ?_)
    clear hK K
    refine norm_ (a' := ?_) ?_ ?_
    rotate_left
    · show Act.put _ (some 15) _ = _
      simp only [Act.put, List.setIfInBounds_toArray, List.set_cons_zero, List.set_cons_succ, i64_w, i32_w]
      rfl
    refine pure_ (i := 10) (N := some 16) (v := ?_) (a' := ?_) #[true, true, true, true, true, true, true, true, true, true, true, false] rfl rfl (by kernel_rfl) (fun _ _ _ h => h) (Or.inl ⟨by rfl, ?_⟩) ?_ ?_
    rotate_left
    · intro w'
      go_simp
      with_reducible rfl
    rotate_left
    · simp only [Act.put, List.setIfInBounds_toArray, List.set_cons_zero, List.set_cons_succ, i64_w, i32_w]
      rfl
    refine pure_ (i := 11) (N := some 5) (v := ?_) (a' := ?_) #[true, true, true, true, true, true, true, true, true, true, true, true] rfl rfl (by kernel_rfl) (fun _ _ _ h => h) (Or.inl ⟨by rfl, ?_⟩) ?_ ?_
    rotate_left
    · intro w'
      go_simp
      with_reducible rfl
    rotate_left
    · simp only [Act.put, List.setIfInBounds_toArray, List.set_cons_zero, List.set_cons_succ, i64_w, i32_w]
      rfl
    refine done_ (by kernel_rfl) ?_

    go_wp2
    go_ret
    exact ⟨by first | rfl | simp, by repeat (first | exact D4.out | apply Drawn0.step)⟩
  · have hd : decide (a ≠ b) = true := by simpa using hab
    rw [hd]
    have hne : a.toList ≠ b.toList := fun e => hab (bytes_ext _ _ e)
    have e1 : (a.toList != b.toList) = true := bne_iff_ne.mpr hne
    have e2 : (a.toList == b.toList) = false := beq_eq_false_iff_ne.mpr hne
    clear hne hab
    go_enter Try.func73, Try.ntmps73
    go_wp2
    obtain ⟨W4, hW4⟩ : ∃ W4, W4 = W.drew := ⟨_, rfl⟩
    have D4 : Aside0 (Drawn0 W W.drew) := ⟨⟨1, rfl⟩⟩
    rw [← hW4] at D4
    refine start_ (n := 12) (S := fun w' => w'.cell? ⟨b2, 0, none⟩ = some (.func (.func 59) #[] #[]) ∧ w'.cell? ⟨b8, 0, none⟩ = some (.int .i64 (n : Int)) ∧ w'.cell? ⟨b3, 0, none⟩ = some (.slice (some ad) l.length c) ∧ w'.cell? ad = some (.slice A1 fl c1)) (ds := []) #[false, false, false, false, false, false, false, false, false, false, false, false] (by kernel_rfl) rfl rfl ⟨h2, h8, h3, hx⟩ (fun hHeld => ?_)
    rw [← hW4] at hHeld ⊢
    clear hW4 h2 h8 h3 hx
    refine pure_ (i := 1) (N := some 7) (v := ?_) (a' := ?_) #[false, true, false, false, false, false, false, false, false, false, false, false] rfl rfl (by kernel_rfl) (fun _ _ _ h => h) (Or.inl ⟨by rfl, ?_⟩) ?_ ?_
    rotate_left
    · intro w'
      go_simp
      with_reducible rfl
    rotate_left
    · simp only [Act.put, List.setIfInBounds_toArray, List.set_cons_zero, List.set_cons_succ, i64_w, i32_w]
      rfl
    refine take_ (i := 0) (N := some 6) (v := ?_) (a' := ?_) #[true, true, false, false, false, false, false, false, false, false, false, false] rfl rfl (by kernel_rfl) (fun _ _ _ h => h) (Or.inl ⟨by rfl, ?_⟩) hHeld ?_ ?_
    rotate_left
    · rintro w' ⟨s0, s1, s2, s3⟩
      go_simp
      with_reducible rfl
    rotate_left
    · simp only [Act.put, List.setIfInBounds_toArray, List.set_cons_zero, List.set_cons_succ, i64_w, i32_w]
      rfl
    refine take_ (i := 2) (N := some 8) (v := ?_) (a' := ?_) #[true, true, true, false, false, false, false, false, false, false, false, false] rfl rfl (by kernel_rfl) (fun _ _ _ h => h) (Or.inl ⟨by rfl, ?_⟩) hHeld ?_ ?_
    rotate_left
    · rintro w' ⟨s0, s1, s2, s3⟩
      go_simp
      with_reducible rfl
    rotate_left
    · simp only [Act.put, List.setIfInBounds_toArray, List.set_cons_zero, List.set_cons_succ, i64_w, i32_w]
      rfl
    refine take_ (i := 4) (N := some 10) (v := ?_) (a' := ?_) #[true, true, true, false, true, false, false, false, false, false, false, false] rfl rfl (by kernel_rfl) (fun _ _ _ h => h) (Or.inl ⟨by rfl, ?_⟩) hHeld ?_ ?_
    rotate_left
    · rintro w' ⟨s0, s1, s2, s3⟩
      go_simp
      with_reducible rfl
    rotate_left
    · simp only [Act.put, List.setIfInBounds_toArray, List.set_cons_zero, List.set_cons_succ, i64_w, i32_w]
      rfl
    refine take_ (i := 5) (N := some 11) (v := ?_) (a' := ?_) #[true, true, true, false, true, true, false, false, false, false, false, false] rfl rfl (by kernel_rfl) (fun _ _ _ h => h) (Or.inl ⟨by rfl, ?_⟩) hHeld ?_ ?_
    rotate_left
    · rintro w' ⟨s0, s1, s2, s3⟩
      go_simp
      with_reducible rfl
    rotate_left
    · simp only [Act.put, List.setIfInBounds_toArray, List.set_cons_zero, List.set_cons_succ, i64_w, i32_w]
      rfl
    refine pure_ (i := 6) (N := some 12) (v := ?_) (a' := ?_) #[true, true, true, false, true, true, true, false, false, false, false, false] rfl rfl (by kernel_rfl) (fun _ _ _ h => h) (Or.inl ⟨by rfl, ?_⟩) ?_ ?_
    rotate_left
    · intro w'
      go_simp
      with_reducible rfl
    rotate_left
    · simp only [Act.put, List.setIfInBounds_toArray, List.set_cons_zero, List.set_cons_succ, i64_w, i32_w]
      rfl
    refine take_ (i := 7) (N := some 13) (v := ?_) (a' := ?_) #[true, true, true, false, true, true, true, true, false, false, false, false] rfl rfl (by kernel_rfl) (fun _ _ _ h => h) (Or.inl ⟨by rfl, ?_⟩) hHeld ?_ ?_
    rotate_left
    · rintro w' ⟨s0, s1, s2, s3⟩
      go_simp
      with_reducible rfl
    rotate_left
    · simp only [Act.put, List.setIfInBounds_toArray, List.set_cons_zero, List.set_cons_succ, i64_w, i32_w]
      rfl
    refine take_ (i := 8) (N := some 14) (v := ?_) (a' := ?_) #[true, true, true, false, true, true, true, true, true, false, false, false] rfl rfl (by kernel_rfl) (fun _ _ _ h => h) (Or.inl ⟨by rfl, ?_⟩) hHeld ?_ ?_
    rotate_left
    · rintro w' ⟨s0, s1, s2, s3⟩
      go_simp
      with_reducible rfl
    rotate_left
    · simp only [Act.put, List.setIfInBounds_toArray, List.set_cons_zero, List.set_cons_succ, i64_w, i32_w]
      rfl
    refine one_ (i := 3) (N := some 9) #[true, true, true, true, true, true, true, true, true, false, false, false] rfl rfl (by kernel_rfl) (by decide) (fun K hK => ?_)
    obtain ⟨s0, s1, s2, s3⟩ := hHeld
    refine goesT_ #[] #[.slice Ak kl ck, .int .i64 (n : Int)] Try.func59 (by kernel_rfl) rfl #[.slice Ak kl ck, .int .i64 (n : Int)] rfl (by rfl) rfl rfl (by rfl) (by simp only [List.map_toArray, List.map_cons, List.map_nil]; rfl) ?_
    with_reducible refine (K1.out _ D4.out).mono ?_
    rintro e w3 ⟨rfl, ⟨nd, rfl⟩⟩
    refine ⟨_, rfl, ?_⟩
    refine hK.out _ _ ⟨s0, s1, s2, s3⟩ (fun hHeld => ?_)
    clear hK K
    refine norm_ (a' := ?_) ?_ ?_
    rotate_left
    · show Act.put _ (some 9) _ = _
      simp only [Act.put, List.setIfInBounds_toArray, List.set_cons_zero, List.set_cons_succ, i64_w, i32_w]
      rfl
    refine one_ (i := 9) (N := some 15) #[true, true, true, true, true, true, true, true, true, true, false, false] rfl rfl (by kernel_rfl) (by decide) (fun K hK => ?_)
    obtain ⟨s0, s1, s2, s3⟩ := hHeld
    refine goesT_ #[] #[.slice A1 fl c1, .int .i64 (n : Int)] Try.func59 (by kernel_rfl) rfl #[.slice A1 fl c1, .int .i64 (n : Int)] rfl (by rfl) rfl rfl (by rfl) (by simp only [List.map_toArray, List.map_cons, List.map_nil]; rfl) ?_
    with_reducible refine (K2.out _ (by repeat (first | exact D4.out | apply Drawn0.step))).mono ?_
    rintro e w4 ⟨rfl, ⟨nd2, rfl⟩⟩
    refine ⟨_, rfl, ?_⟩
    refine hK.out _ _ ⟨s0, s1, s2, s3⟩ (fun hHeld => ?_)
    clear hK K
    refine norm_ (a' := ?_) ?_ ?_
    rotate_left
    · show Act.put _ (some 15) _ = _
      simp only [Act.put, List.setIfInBounds_toArray, List.set_cons_zero, List.set_cons_succ, i64_w, i32_w]
      rfl
    refine pure_ (i := 10) (N := some 16) (v := ?_) (a' := ?_) #[true, true, true, true, true, true, true, true, true, true, true, false] rfl rfl (by kernel_rfl) (fun _ _ _ h => h) (Or.inl ⟨by rfl, ?_⟩) ?_ ?_
    rotate_left
    · intro w'
      go_simp
      with_reducible rfl
    rotate_left
    · simp only [Act.put, List.setIfInBounds_toArray, List.set_cons_zero, List.set_cons_succ, i64_w, i32_w]
      rfl
    refine pure_ (i := 11) (N := some 5) (v := ?_) (a' := ?_) #[true, true, true, true, true, true, true, true, true, true, true, true] rfl rfl (by kernel_rfl) (fun _ _ _ h => h) (Or.inl ⟨by rfl, ?_⟩) ?_ ?_
    rotate_left
    · intro w'
      go_simp
      with_reducible rfl
    rotate_left
    · simp only [Act.put, List.setIfInBounds_toArray, List.set_cons_zero, List.set_cons_succ, i64_w, i32_w]
      rfl
    refine done_ (by kernel_rfl) ?_

    go_wp2
    go_ret
    exact ⟨by first | rfl | simp, by repeat (first | exact D4.out | apply Drawn0.step)⟩

set_option maxHeartbeats 4000000 in
set_option maxRecDepth 100000 in
theorem index73_59 (W : World) (b2 b8 b3 : Nat) (A : Option Addr) (c : Nat) (l : List (List ByteArray)) (n : Nat) (h2 : W.cell? ⟨b2, 0, none⟩ = some (.func (.func 59) #[] #[])) (h8 : W.cell? ⟨b8, 0, none⟩ = some (.int .i64 (n : Int))) (h3 : W.cell? ⟨b3, 0, none⟩ = some (.slice A l.length c))
    (hl : Kd.C (Kd.slice 9 Kd.string) W A l.length l) (hp : 0 < l.length) (hn : ∀ k ∈ l, n < k.length ∧ k.length ≤ 1000000) :
    Calls Try.prog 74 #[.slice A l.length c, .func (.func 73) #[] #[.pointer (some ⟨b2, 0, none⟩), .pointer (some ⟨b8, 0, none⟩), .pointer (some ⟨b3, 0, none⟩)]] W (IdxPost (fun k => decide (atB k n ≠ atB (rd_L1 l 0) n)) l W) := by
  have hl0 : n < (rd_L1 l 0).length ∧ (rd_L1 l 0).length ≤ 1000000 := by
    have e : rd_L1 l 0 = l[0] := by simp [rd_L1, List.getD_eq_getElem?_getD, hp]
    rw [e]; exact hn _ (List.getElem_mem hp)
  have HL := Aside0.mk hl
  have HM := Aside0.mk hl.2.1
  have HP := Aside0.mk hp
  have HN := Aside0.mk hn
  have HL0 := Aside0.mk hl0
  have H2 := Aside0.mk h2
  have H8 := Aside0.mk h8
  have H3 := Aside0.mk h3
  clear hl hn hl0 h2 h8 h3 hp
  go_enter Try.func74, Try.ntmps74
  go_wp2
  repeat (go_quiet (fail); try go_wp2)
  go_loopg [8] l.length (fun kq v8 w' => ∃ i : Nat, v8 = .int .i64 (i : Int) ∧ Aside0 (i ≤ l.length ∧ kq = l.length - i) ∧ Aside0 ((l.take i).any (fun k => decide (atB k n ≠ atB (rd_L1 l 0) n)) = false) ∧ Drawn0 W w')
  case atStart => exact ⟨0, rfl, ⟨Nat.zero_le _, rfl⟩, ⟨by simp⟩, Drawn0.refl _⟩
  case round =>
    obtain ⟨i, rfl, HI, HA, ⟨m1, rfl⟩⟩ := hrel
    by_cases c4 : i < l.length
    · have c4b0 : decide ((i : Int) < (l.length : Int)) = true := decide_eq_true (by omega)
      have c4b1 : decide (i < l.length) = true := decide_eq_true c4
      obtain ⟨z, g0⟩ : ∃ z, l[i]? = some z := ⟨_, List.getElem?_eq_getElem c4⟩
      obtain ⟨ad, A2, c2, rfl, hx, hl2, hi2⟩ := C_row HL.out i z g0
      have G0 := Aside0.mk g0
      have HR2 := Aside0.mk hi2
      have HC2 := Aside0.mk hl2
      have HZ := Aside0.mk (HN.out z (List.mem_of_getElem? g0))
      have HW2 : Aside0 (wrap64 ((i : Int) + 1) = ((i + 1 : Nat) : Int)) := ⟨by have := HM.out; unfold wrap64; omega⟩
      clear hi2 hl2 g0
      cases hd : decide (atB z n ≠ atB (rd_L1 l 0) n) with
      | true =>
        have HD := Aside0.mk hd
        clear hd
        go_wp2_with (go_at_call 73; (with_reducible refine (alike73_59 _ b2 b8 b3 (some ad) c l n A2 c2 z ?s2 ?s8 ?s3 ?sl HP.out ?sk HC2.out HZ.out.1 HL0.out.1 HZ.out.2 HL0.out.2).mono ?_); (case s2 => exact H2.out); (case s8 => exact H8.out); (case s3 => exact H3.out); (case sl => with_reducible exact Kd.C_drewN HL.out _); (case sk => with_reducible exact Kd.C_drewN HR2.out _); rintro e w' ⟨he, ⟨nd, rfl⟩⟩; rw [HD.out] at he; subst he)
        go_ret
        exact ⟨i, rfl, by rw [any_found _ _ i z G0.out HD.out]; simp, ⟨⟨_, rfl⟩⟩⟩
      | false =>
        have HD := Aside0.mk hd
        clear hd
        go_wp2_with (go_at_call 73; (with_reducible refine (alike73_59 _ b2 b8 b3 (some ad) c l n A2 c2 z ?s2 ?s8 ?s3 ?sl HP.out ?sk HC2.out HZ.out.1 HL0.out.1 HZ.out.2 HL0.out.2).mono ?_); (case s2 => exact H2.out); (case s8 => exact H8.out); (case s3 => exact H3.out); (case sl => with_reducible exact Kd.C_drewN HL.out _); (case sk => with_reducible exact Kd.C_drewN HR2.out _); rintro e w' ⟨he, ⟨nd, rfl⟩⟩; rw [HD.out] at he; subst he)
        go_roundg (l.length - (i + 1))
        case measure => have := HI.out; omega
        case rel => exact ⟨i + 1, by first | rfl | (simp only [i64_w]; rw [HW2.out]) | (rw [HW2.out]), ⟨by omega, rfl⟩, ⟨any_take_succ _ _ i z G0.out HA.out HD.out⟩, ⟨⟨_, rfl⟩⟩⟩
    · have c4b0 : decide ((i : Int) < (l.length : Int)) = false := decide_eq_false (by omega)
      have c4b1 : decide (i < l.length) = false := decide_eq_false c4
      have HQ := Aside0.mk (List.take_of_length_le (l := l) (i := i) (by omega))
      go_wp2
      repeat (go_quiet (fail); try go_wp2)
      go_ret
      exact ⟨-1, rfl, by have := HA.out; rw [HQ.out] at this; rw [this]; rfl, ⟨⟨_, rfl⟩⟩⟩
theorem contains73_59 (W : World) (b2 b8 b3 : Nat) (A : Option Addr) (c : Nat) (l : List (List ByteArray)) (n : Nat) (h2 : W.cell? ⟨b2, 0, none⟩ = some (.func (.func 59) #[] #[])) (h8 : W.cell? ⟨b8, 0, none⟩ = some (.int .i64 (n : Int))) (h3 : W.cell? ⟨b3, 0, none⟩ = some (.slice A l.length c))
    (hl : Kd.C (Kd.slice 9 Kd.string) W A l.length l) (hp : 0 < l.length) (hn : ∀ k ∈ l, n < k.length ∧ k.length ≤ 1000000) :
    Calls Try.prog 60 #[.slice A l.length c, .func (.func 73) #[] #[.pointer (some ⟨b2, 0, none⟩), .pointer (some ⟨b8, 0, none⟩), .pointer (some ⟨b3, 0, none⟩)]] W fun e w' => e = .returned (.bool (differB atB l n)) ∧ Drawn0 W w' := by
  have HC := Aside0.mk (index73_59 W b2 b8 b3 A c l n h2 h8 h3 hl hp hn)
  clear h2 h8 h3 hl hn hp
  go_enter Try.func60, Try.ntmps60
  go_wp2_with (go_at_call 74; (with_reducible refine HC.out.mono ?_); rintro e w' ⟨m, rfl, hm, ⟨nd, rfl⟩⟩; have HN := Aside0.mk hm; clear hm)
  go_ret
  exact ⟨by unfold differB; rw [← HN.out]; rfl, ⟨⟨_, rfl⟩⟩⟩

set_option maxHeartbeats 4000000 in
set_option maxRecDepth 100000 in
theorem alike56_59 (w : World) (A : Option Addr) (c : Nat) (l : List (List ByteArray)) (hl : Kd.C (Kd.slice 9 Kd.string) w A l.length l) (hc : l.length ≤ c) (hp : 0 < l.length) (hs : l.length ≤ 1000000) (hn : ∀ k ∈ l, k.length ≤ 1000000) :
    Calls Try.prog 56 #[.func (.func 59) #[] #[], .slice A l.length c] w fun e w' => e = .returned (.int .i64 (alikeG atB l (leastL (rd_L1 l 0) l) 0 : Int)) ∧ Below w.heap.size w w' := by
  obtain ⟨ad, A1, c1, rfl, hx0, hl1, hC1⟩ := at_L1 hl 0 (by omega) (by omega)
  have hx0 : w.cell? ad = some (.slice A1 (rd_L1 l 0).length c1) := hx0
  have hl0 : (rd_L1 l 0).length ≤ 1000000 := by
    have e : rd_L1 l 0 = l[0] := by simp [rd_L1, List.getD_eq_getElem?_getD, hp]
    rw [e]; exact hn _ (List.getElem_mem hp)
  obtain ⟨W1, hW1⟩ : ∃ W1, (w.alloc (.cells #[.func (.func 59) #[] #[]] 69)).alloc (.cells #[.slice (some ad) l.length c] 23) = W1 := ⟨_, rfl⟩
  have hB : Below w.heap.size w W1 := by rw [← hW1]; exact below_alloc (below_alloc (Below.refl _ _) _) _
  have hb2 : W1.heap[w.heap.size]? = some (.cells #[.func (.func 59) #[] #[]] 69 (0, 0)) := by rw [← hW1]; exact blk_later (Go.heap_alloc_new w _) (below_alloc (Below.refl _ _) _)
  have hb3 : W1.heap[w.heap.size + 1]? = some (.cells #[.slice (some ad) l.length c] 23 (0, 0)) := by
    rw [← hW1]
    have := Go.heap_alloc_new (w.alloc (.cells #[.func (.func 59) #[] #[]] 69)) (.cells #[.slice (some ad) l.length c] 23)
    rw [World.size_alloc] at this
    exact this
  have hsz : W1.heap.size = w.heap.size + 2 := by rw [← hW1]; simp
  have k2 : W1.cell? ⟨w.heap.size, 0, none⟩ = some (.func (.func 59) #[] #[]) := blk_cell hb2 0
  have k3 : W1.cell? ⟨w.heap.size + 1, 0, none⟩ = some (.slice (some ad) l.length c) := blk_cell hb3 0
  have hx : W1.cell? ad = some (.slice A1 (rd_L1 l 0).length c1) := (hB.cell (World.block_lt_of_cell? w _ hx0)).trans hx0
  have HL := Aside0.mk hl
  have HP := Aside0.mk hp
  have HS := Aside0.mk hs
  have HN := Aside0.mk hn
  have HL0 := Aside0.mk hl0
  have HB := Aside0.mk hB
  have HB2 := Aside0.mk hb2
  have HB3 := Aside0.mk hb3
  have HSZ := Aside0.mk hsz
  have HWQ := Aside0.mk hW1
  have hp' : (0 : Int) < (l.length : Int) := by omega
  clear hl hc hn hB hb2 hb3 hsz hx0 hl1 hC1 hs hl0
  obtain ⟨f, hf⟩ : ∃ f, rd_L1 l 0 = f := ⟨_, rfl⟩
  rw [hf] at hx HL0 ⊢
  have HF := Aside0.mk hf
  clear hf
  go_enter Try.func56, Try.ntmps56
  go_wp2
  go_loopg [5, 15] l.length (fun kq v5 v15 wr => ∃ i : Nat, v15 = .int .i64 (i : Int) ∧ v5 = .int .i64 (leastL f (l.take i) : Int) ∧ W1 = wr ∧ Aside0 (i ≤ l.length ∧ kq = l.length - i))
  case atStart => exact ⟨0, rfl, by simp [leastL], rfl, ⟨Nat.zero_le _, rfl⟩⟩
  case round =>
    obtain ⟨i, rfl, rfl, rfl, HI⟩ := hrel
    by_cases c4 : i < l.length
    · have c4b0 : decide ((i : Int) < (l.length : Int)) = true := decide_eq_true (by omega)
      have c4b1 : decide (i < l.length) = true := decide_eq_true c4
      obtain ⟨z, g0⟩ : ∃ z, l[i]? = some z := ⟨_, List.getElem?_eq_getElem c4⟩
      obtain ⟨ae, A2, c2, e2, hx2, hl2, hi2⟩ := C_row (Kd.C_below HL.out HB.out) i z g0
      injection e2 with e2
      subst e2
      have HSN := Aside0.mk (leastL_snoc f l i z g0)
      obtain ⟨m, hm⟩ : ∃ m, leastL f (l.take i) = m := ⟨_, rfl⟩
      rw [hm] at HSN ⊢
      have HMN : Aside0 (mn (m : Int) (z.length : Int) = ((min m z.length : Nat) : Int)) := ⟨by unfold mn; omega⟩
      have HW2 : Aside0 (wrap64 ((i : Int) + 1) = ((i + 1 : Nat) : Int)) := ⟨by have := HS.out; unfold wrap64; omega⟩
      clear hi2 hl2 g0 hm
      go_wp2
      all_goals
        go_roundg (l.length - (i + 1))
        case measure => have := HI.out; omega
        case rel => exact ⟨i + 1, by first | rfl | (simp only [i64_w]; rw [HW2.out]) | (rw [HW2.out]), by rw [HSN.out]; first | rfl | (rw [HMN.out]) | (rw [Nat.min_eq_left (by omega)]) | (rw [Nat.min_eq_right (by omega)]), rfl, ⟨by omega, rfl⟩⟩
    · have hil : l.take i = l := List.take_of_length_le (by omega)
      have c4b0 : decide ((i : Int) < (l.length : Int)) = false := decide_eq_false (by omega)
      have c4b1 : decide (i < l.length) = false := decide_eq_false c4
      rw [hil]
      obtain ⟨m, hm⟩ : ∃ m, leastL f l = m := ⟨_, rfl⟩
      rw [hm]
      have HML : Aside0 (∀ k ∈ l, m ≤ k.length) := ⟨by rw [← hm]; exact (leastL_le f l).2⟩
      have HMF : Aside0 (m ≤ f.length) := ⟨by rw [← hm]; exact (leastL_le f l).1⟩
      have HMQ := Aside0.mk hm
      clear hil c4 HI hm
      have hb8 := Go.heap_alloc_new W1 (.cells #[.int .i64 0] 3)
      rw [HSZ.out] at hb8
      have HB8 := Aside0.mk hb8
      have HC2 := Aside0.mk (blk_later HB2.out (below_alloc (Below.refl _ _) (.cells #[.int .i64 0] 3)))
      have HC3 := Aside0.mk (blk_later HB3.out (below_alloc (Below.refl _ _) (.cells #[.int .i64 0] 3)))
      have HBA := Aside0.mk (below_alloc HB.out (.cells #[.int .i64 0] 3))
      have hsz := HSZ.out
      clear hb8
      go_wp2
      go_loopg [] m (fun kq wr => ∃ n : Nat, Aside0 (n ≤ m ∧ kq = m - n) ∧ Aside0 (wr.heap[w.heap.size]? = some (.cells #[.func (.func 59) #[] #[]] 69 (0, 0))) ∧ Aside0 (wr.heap[w.heap.size + 1]? = some (.cells #[.slice (some ad) l.length c] 23 (0, 0))) ∧ Aside0 (wr.heap[w.heap.size + 2]? = some (.cells #[.int .i64 (n : Int)] 3 (0, 0))) ∧ Aside0 (Below w.heap.size w wr) ∧ Aside0 (alikeG atB l m 0 = alikeG atB l (m - n) n))
      case atStart => exact ⟨0, ⟨Nat.zero_le _, rfl⟩, HC2, HC3, HB8, HBA, ⟨rfl⟩⟩
      case round =>
        clear HC2 HC3 HB8 HBA
        obtain ⟨n, HI, D2, D3, D8, DB, DG⟩ := hrel
        have q2 : wr.cell? ⟨w.heap.size, 0, none⟩ = some (.func (.func 59) #[] #[]) := blk_cell D2.out 0
        have q3 : wr.cell? ⟨w.heap.size + 1, 0, none⟩ = some (.slice (some ad) l.length c) := blk_cell D3.out 0
        have q8 : wr.cell? ⟨w.heap.size + 2, 0, none⟩ = some (.int .i64 (n : Int)) := blk_cell D8.out 0
        have f8 : wr.frozen? ⟨w.heap.size + 2, 0, none⟩ = false := blk_frozen D8.out 0
        by_cases c5 : n < m
        · have c5b0 : decide ((n : Int) < (m : Int)) = true := decide_eq_true (by omega)
          have c5b1 : decide (n < m) = true := decide_eq_true c5
          have Q2 := Aside0.mk q2
          have Q3 := Aside0.mk q3
          have Q8 := Aside0.mk q8
          have HNK : Aside0 (∀ k ∈ l, n < k.length ∧ k.length ≤ 1000000) := ⟨fun k hk => ⟨by have := HML.out k hk; omega, HN.out k hk⟩⟩
          have HST : Aside0 (alikeG atB l (m - n) n = if differB atB l n = true then n else alikeG atB l (m - (n + 1)) (n + 1)) := ⟨by
            obtain ⟨d, hd⟩ : ∃ d, m - n = d + 1 := ⟨m - n - 1, by omega⟩
            rw [hd, alikeG, show m - (n + 1) = d from by omega]⟩
          have HW2 : Aside0 (wrap64 ((n : Int) + 1) = ((n + 1 : Nat) : Int)) := ⟨by have := HMF.out; have := HL0.out; unfold wrap64; omega⟩
          have HLR := Aside0.mk (Kd.C_below HL.out DB.out)
          cases hd : differB atB l n with
          | true =>
            have HD := Aside0.mk hd
            rw [HD.out, if_pos rfl] at HST
            clear hd
            go_wp2_with (go_at_call 60; (with_reducible refine (contains73_59 _ w.heap.size (w.heap.size + 2) (w.heap.size + 1) (some ad) c l n ?s2 ?s8 ?s3 ?sl HP.out HNK.out).mono ?_); (case s2 => exact Q2.out); (case s8 => exact Q8.out); (case s3 => exact Q3.out); (case sl => exact HLR.out); rintro e w' ⟨he, ⟨nd, rfl⟩⟩; rw [HD.out] at he; subst he)
            go_ret
            exact ⟨by rw [HMQ.out, DG.out, HST.out]; rfl, pw_below_drewN DB.out _⟩
          | false =>
            have HD := Aside0.mk hd
            rw [HD.out, if_neg (by decide)] at HST
            clear hd
            go_wp2_with (go_at_call 60; (with_reducible refine (contains73_59 _ w.heap.size (w.heap.size + 2) (w.heap.size + 1) (some ad) c l n ?s2 ?s8 ?s3 ?sl HP.out HNK.out).mono ?_); (case s2 => exact Q2.out); (case s8 => exact Q8.out); (case s3 => exact Q3.out); (case sl => exact HLR.out); rintro e w' ⟨he, ⟨nd, rfl⟩⟩; rw [HD.out] at he; subst he)
            go_roundg (m - (n + 1))
            case measure => have := HI.out; omega
            case rel =>
              refine ⟨n + 1, ⟨by omega, rfl⟩, ⟨(Below.heap_setCell _ ⟨w.heap.size + 2, 0, none⟩ _ w.heap.size (by show w.heap.size ≠ w.heap.size + 2; omega)).trans D2.out⟩, ⟨(Below.heap_setCell _ ⟨w.heap.size + 2, 0, none⟩ _ (w.heap.size + 1) (by show w.heap.size + 1 ≠ w.heap.size + 2; omega)).trans D3.out⟩, ⟨?_⟩, ⟨(pw_below_drewN DB.out _).setCell (p := ⟨w.heap.size + 2, 0, none⟩) (by show w.heap.size ≤ w.heap.size + 2; omega) _⟩, ⟨by rw [DG.out, HST.out]⟩⟩
              have hs := (show Boxed (wr.drewN nd) (w.heap.size + 2) 3 (.int .i64 (n : Int)) from D8.out).set (.int .i64 ((n + 1 : Nat) : Int))
              have := hs
              first | exact hs | (simp only [i64_w]; rw [HW2.out]; exact hs) | (rw [HW2.out]; exact hs)
        · have c5b0 : decide ((n : Int) < (m : Int)) = false := decide_eq_false (by omega)
          have c5b1 : decide (n < m) = false := decide_eq_false c5
          have HNM : Aside0 (alikeG atB l (m - n) n = n) := ⟨by rw [show m - n = 0 from by omega]; rfl⟩
          go_wp2
          repeat (go_quiet (fail); try go_wp2)
          go_ret
          exact ⟨by rw [HMQ.out, DG.out, HNM.out]; rfl, DB.out⟩
end Go.Proofs.Ytiaoppikdgoieaa.M
namespace Go.Proofs.Ytiaoppikdgoieaa.M
open Go.RowKit Go.Proofs Go.Proofs.YtiaoppikdgoieaaW.PrintWords Go.Proofs.YtiaoppikdgoieaaW.PrintLast Go.Proofs.YtiaoppikdgoieaaW.PrintMore Go.Proofs.Ytiaoppikdgoieaa.Hand
attribute [local go_sem] Oper.semAt_some
set_option linter.unusedVariables false
set_option linter.unusedSimpArgs false

def okA (l : List (List ByteArray)) : Prop := 0 < l.length ∧ l.length ≤ 1000000 ∧ ∀ x ∈ l, x.length ≤ 1000000
instance (l : List (List ByteArray)) : Decidable (okA l) := inferInstanceAs (Decidable (_ ∧ _))
def alikeF (l : List (List ByteArray)) : Nat := alikeG atF l (leastL (rd_L1 l 0) l) 0
def alikeB (l : List (List ByteArray)) : Nat := alikeG atB l (leastL (rd_L1 l 0) l) 0
def zeal_alikeF.f (k : Nat) (l0 : List (List ByteArray)) : Option Int := if okA l0 then some (alikeF l0 : Int) else none
theorem zeal_alikeF.mono : ∀ a0 k, LeO (zeal_alikeF.f k a0) (zeal_alikeF.f (k + 1) a0) := fun _ _ => LeO.refl _
theorem zeal_alikeF.calls (k : Nat) (A0 : Option Addr) (c0 : Nat) (l0 : List (List ByteArray)) (r : Int) (w : World) (hr0 : Kd.C (Kd.slice 9 Kd.string) w A0 l0.length l0) (hc0 : l0.length ≤ c0) (h : zeal_alikeF.f k l0 = some r) :
    Calls Try.prog 56 #[.func (.func 57) #[] #[], .slice A0 l0.length c0] w fun e w' => e = .returned (.int .i64 r) ∧ Below w.heap.size w w' := by
  unfold zeal_alikeF.f at h
  split at h
  · next hb =>
    obtain rfl := Option.some.inj h
    exact alike56_57 w A0 c0 l0 hr0 hc0 hb.1 hb.2.1 hb.2.2
  · cases h
def zeal_alikeB.f (k : Nat) (l0 : List (List ByteArray)) : Option Int := if okA l0 then some (alikeB l0 : Int) else none
theorem zeal_alikeB.mono : ∀ a0 k, LeO (zeal_alikeB.f k a0) (zeal_alikeB.f (k + 1) a0) := fun _ _ => LeO.refl _
theorem zeal_alikeB.calls (k : Nat) (A0 : Option Addr) (c0 : Nat) (l0 : List (List ByteArray)) (r : Int) (w : World) (hr0 : Kd.C (Kd.slice 9 Kd.string) w A0 l0.length l0) (hc0 : l0.length ≤ c0) (h : zeal_alikeB.f k l0 = some r) :
    Calls Try.prog 56 #[.func (.func 59) #[] #[], .slice A0 l0.length c0] w fun e w' => e = .returned (.int .i64 r) ∧ Below w.heap.size w w' := by
  unfold zeal_alikeB.f at h
  split at h
  · next hb =>
    obtain rfl := Option.some.inj h
    exact alike56_59 w A0 c0 l0 hr0 hc0 hb.1 hb.2.1 hb.2.2
  · cases h

theorem some61_c (w : World) (A : Option Addr) (c : Nat) (l : List ByteArray) : Calls Try.prog 61 #[.slice A l.length c] w fun e w' => e = .returned (.bool (decide (0 < l.length))) ∧ w = w' := by
  by_cases h : 0 < l.length
  · rw [decide_eq_true h]
    have c1 : decide ((l.length : Int) > 0) = true := decide_eq_true (by omega)
    have c2 : decide (0 < (l.length : Int)) = true := decide_eq_true (by omega)
    have c3 : decide (0 < l.length) = true := decide_eq_true (by omega)
    clear h
    go_enter Try.func61, Try.ntmps61
    go_wp2
    go_ret
    exact ⟨rfl, rfl⟩
  · rw [decide_eq_false h]
    have c1 : decide ((l.length : Int) > 0) = false := decide_eq_false (by omega)
    have c2 : decide (0 < (l.length : Int)) = false := decide_eq_false (by omega)
    have c3 : decide (0 < l.length) = false := decide_eq_false (by omega)
    clear h
    go_enter Try.func61, Try.ntmps61
    go_wp2
    go_ret
    exact ⟨rfl, rfl⟩
set_option maxHeartbeats 1000000 in
theorem index61_c (W : World) (A : Option Addr) (c : Nat) (l : List (List ByteArray)) (hl : Kd.C (Kd.slice 9 Kd.string) W A l.length l) :
    Calls Try.prog 74 #[.slice A l.length c, .func (.func 61) #[] #[]] W (IdxPost (fun k : List ByteArray => decide (0 < k.length)) l W) := by
  have HL := Aside0.mk hl
  have HM := Aside0.mk hl.2.1
  clear hl
  go_enter Try.func74, Try.ntmps74
  go_wp2
  repeat (go_quiet (fail); try go_wp2)
  go_loopg [8] l.length (fun kq v8 w' => ∃ i : Nat, v8 = .int .i64 (i : Int) ∧ Aside0 (i ≤ l.length ∧ kq = l.length - i) ∧ Aside0 ((l.take i).any (fun k : List ByteArray => decide (0 < k.length)) = false) ∧ Drawn0 W w')
  case atStart => exact ⟨0, rfl, ⟨Nat.zero_le _, rfl⟩, ⟨by simp⟩, Drawn0.refl _⟩
  case round =>
    obtain ⟨i, rfl, HI, HA, ⟨m1, rfl⟩⟩ := hrel
    by_cases c4 : i < l.length
    · have c4b0 : decide ((i : Int) < (l.length : Int)) = true := decide_eq_true (by omega)
      have c4b1 : decide (i < l.length) = true := decide_eq_true c4
      obtain ⟨z, g0⟩ : ∃ z, l[i]? = some z := ⟨_, List.getElem?_eq_getElem c4⟩
      obtain ⟨ad, A2, c2, rfl, hx, hl2, hi2⟩ := C_row HL.out i z g0
      have G0 := Aside0.mk g0
      have HW2 : Aside0 (wrap64 ((i : Int) + 1) = ((i + 1 : Nat) : Int)) := ⟨by have := HM.out; unfold wrap64; omega⟩
      clear hi2 hl2 g0
      cases hd : decide (0 < z.length) with
      | true =>
        have HD := Aside0.mk hd
        clear hd
        go_wp2_with (go_at_call 61; (with_reducible refine (some61_c _ A2 c2 z).mono ?_); rintro e w' ⟨he, rfl⟩; rw [HD.out] at he; subst he)
        go_ret
        exact ⟨i, rfl, by rw [any_found _ _ i z G0.out HD.out]; simp, ⟨⟨_, rfl⟩⟩⟩
      | false =>
        have HD := Aside0.mk hd
        clear hd
        go_wp2_with (go_at_call 61; (with_reducible refine (some61_c _ A2 c2 z).mono ?_); rintro e w' ⟨he, rfl⟩; rw [HD.out] at he; subst he)
        go_roundg (l.length - (i + 1))
        case measure => have := HI.out; omega
        case rel => exact ⟨i + 1, by first | rfl | (simp only [i64_w]; rw [HW2.out]) | (rw [HW2.out]), ⟨by omega, rfl⟩, ⟨any_take_succ _ _ i z G0.out HA.out HD.out⟩, ⟨⟨_, rfl⟩⟩⟩
    · have c4b0 : decide ((i : Int) < (l.length : Int)) = false := decide_eq_false (by omega)
      have c4b1 : decide (i < l.length) = false := decide_eq_false c4
      have HQ := Aside0.mk (List.take_of_length_le (l := l) (i := i) (by omega))
      go_wp2
      repeat (go_quiet (fail); try go_wp2)
      go_ret
      exact ⟨-1, rfl, by have := HA.out; rw [HQ.out] at this; rw [this]; rfl, ⟨⟨_, rfl⟩⟩⟩
def someL (l : List (List ByteArray)) : Bool := l.any fun k => decide (0 < k.length)
def zeal_someL.f (k : Nat) (l0 : List (List ByteArray)) : Option Bool := some (someL l0)
theorem zeal_someL.mono : ∀ a0 k, LeO (zeal_someL.f k a0) (zeal_someL.f (k + 1) a0) := fun _ _ => LeO.refl _
theorem zeal_someL.calls (k : Nat) (A0 : Option Addr) (c0 : Nat) (l0 : List (List ByteArray)) (r : Bool) (w : World) (hr0 : Kd.C (Kd.slice 9 Kd.string) w A0 l0.length l0) (hc0 : l0.length ≤ c0) (h : zeal_someL.f k l0 = some r) :
    Calls Try.prog 60 #[.slice A0 l0.length c0, .func (.func 61) #[] #[]] w fun e w' => e = .returned (.bool r) ∧ Drawn0 w w' := by
  obtain rfl := Option.some.inj h
  have HC := Aside0.mk (index61_c w A0 c0 l0 hr0)
  clear hr0 hc0 h
  go_enter Try.func60, Try.ntmps60
  go_wp2_with (go_at_call 74; (with_reducible refine HC.out.mono ?_); rintro e w' ⟨m, rfl, hm, ⟨nd, rfl⟩⟩; have HN := Aside0.mk hm; clear hm)
  go_ret
  exact ⟨by unfold someL; rw [← HN.out]; rfl, ⟨⟨_, rfl⟩⟩⟩
end Go.Proofs.Ytiaoppikdgoieaa.M
namespace Go.Proofs.Ytiaoppikdgoieaa.M
open Go.RowKit Go.Proofs Go.Proofs.YtiaoppikdgoieaaW.PrintWords Go.Proofs.YtiaoppikdgoieaaW.PrintLast Go.Proofs.YtiaoppikdgoieaaW.PrintMore Go.Proofs.Ytiaoppikdgoieaa.Hand
attribute [local go_sem] Oper.semAt_some
set_option linter.unusedVariables false
set_option linter.unusedSimpArgs false

/-- What is chosen of a piece, of pieces. -/
def chooseP (side : Int) (x : S27) : List ByteArray := if x.f0 = false then x.f1 else if 1 ≤ side ∧ side ≤ (x.f3.length : Int) then rd_L1 x.f3 (side - 1) else []
def chooseG (side : Int) (l : List S27) : List ByteArray := (l.map (chooseP side)).flatten
theorem chooseG_snoc (side : Int) (l : List S27) (i : Nat) (x : S27) (h : l[i]? = some x) : chooseG side (l.take (i + 1)) = chooseG side (l.take i) ++ chooseP side x := by
  unfold chooseG
  rw [take_snoc l i x h]; simp
theorem chooseG_pre (side : Int) (l : List S27) (i : Nat) : (chooseG side (l.take i)).length ≤ (chooseG side l).length := by
  have e : chooseG side l = chooseG side (l.take i) ++ chooseG side (l.drop i) := by
    unfold chooseG
    rw [← List.flatten_append, ← List.map_append, List.take_append_drop]
  rw [e]; simp
/-- The two variables: what is chosen so far, and the side. -/
def VarsC (n₀ Bo Bs : Nat) (W : World) (o : List ByteArray) (side : Int) : Prop :=
  (∃ v, Boxed W Bo 22 v ∧ Kd.R Kd.string 9 W n₀ (fun _ => True) v o) ∧ Boxed W Bs 3 (.int .i64 side)
theorem appN {ops : Array Oper} {rest : List Oper} {op : Oper} {a : Act} {Q : Exit → Act → World → Prop} (hgd : op.guard = none) (s x : Operand) (hop : op.op = .call { callee := .builtin .append, args := #[s, x], argTypes := #[22, 22] })
    (W : World) (n₀ : Nat) (v : Value) (xs ys : List ByteArray) (A : Option Addr) (c : Nat) (hs : a.eval s = v) (hx : a.eval x = .slice A ys.length c) (HO : Kd.R Kd.string 9 W n₀ (fun _ => True) v xs) (HR : Kd.C Kd.string W A ys.length ys) (hn : n₀ ≤ W.heap.size) (hl : xs.length + ys.length ≤ 1000000)
    (h : ∀ v1 w1, Kd.R Kd.string 9 w1 n₀ (fun _ => True) v1 (xs ++ ys) → Below n₀ W w1 → W.grownBy w1 v.ownBlock → wpList Try.prog ops Q rest (a.put op.dst v1) w1) :
    wpList Try.prog ops Q (op :: rest) a W :=
  Kd.R_append_rows Kd.string (w0 := W) n₀ hgd s x 22 9 (.string ⟨#[]⟩) 16 hop Try.underlying22 info9 rfl (by decide) (by omega) v xs ys A ys.length c (fun _ => True) (fun _ => False) hs hx HO HR (fun _ _ h => h) (fun _ h => h.elim) (fun _ _ => trivial) (Below.refl _ _) hn (by omega) (fun v1 w1 h1 h2 h3 _ => h v1 w1 h1 h2 h3)
theorem appN_step {ops : Array Oper} {op : Oper} {a : Act} {Q : Exit → Act → World → Prop} {Kc : Act → World → Prop} (W : World) (hw : Region.wanted op (yielded ops a.tmps) = true) (s x : Operand) (hop : op.op = .call { callee := .builtin .append, args := #[s, x], argTypes := #[22, 22] })
    (n₀ : Nat) (v : Value) (xs ys : List ByteArray) (A : Option Addr) (c : Nat) (hs : a.eval s = v) (hx : a.eval x = .slice A ys.length c) (HO : Kd.R Kd.string 9 W n₀ (fun _ => True) v xs) (HR : Kd.C Kd.string W A ys.length ys) (hn : n₀ ≤ W.heap.size) (hl : xs.length + ys.length ≤ 1000000)
    (h : ∀ v1 w1, Kd.R Kd.string 9 w1 n₀ (fun _ => True) v1 (xs ++ ys) → Below n₀ W w1 → W.grownBy w1 v.ownBlock → Kc (a.put op.dst v1) w1) :
    if Region.wanted op (yielded ops a.tmps) = true then Oper.wp Try.prog op a W Kc Q else Kc (a.put op.dst undef) W :=
  Kd.R_append_rows_step Kd.string (w0 := W) n₀ hw s x 22 9 (.string ⟨#[]⟩) 16 hop Try.underlying22 info9 rfl (by decide) (by omega) v xs ys A ys.length c (fun _ => True) (fun _ => False) hs hx HO HR (fun _ _ h => h) (fun _ h => h.elim) (fun _ _ => trivial) (Below.refl _ _) hn (by omega) (fun v1 w1 h1 h2 h3 _ => h v1 w1 h1 h2 h3)
theorem varsC_alloc {n₀ Bo Bs : Nat} {W : World} {o : List ByteArray} {side : Int} (h : VarsC n₀ Bo Bs W o side) (ob : Obj) : VarsC n₀ Bo Bs (W.alloc ob) o side := by
  obtain ⟨⟨v, hv, hR⟩, hb⟩ := h
  exact ⟨⟨v, blk_later hv (below_alloc (Below.refl _ _) ob), Kd.R_alloc hR ob⟩, blk_later hb (below_alloc (Below.refl _ _) ob)⟩
theorem varsC_drew {n₀ Bo Bs : Nat} {W : World} {o : List ByteArray} {side : Int} (h : VarsC n₀ Bo Bs W o side) : VarsC n₀ Bo Bs W.drew o side := by
  obtain ⟨⟨v, hv, hR⟩, hb⟩ := h
  exact ⟨⟨v, hv, Kd.R_drew hR⟩, hb⟩
theorem varsC_box {n₀ Bo Bs : Nat} {w1 : World} {v v1 : Value} {o : List ByteArray} {side : Int} (hn : n₀ ≤ Bo) (hne : Bs ≠ Bo) (hv : Boxed w1 Bo 22 v) (hb : Boxed w1 Bs 3 (.int .i64 side)) (hR : Kd.R Kd.string 9 w1 n₀ (fun _ => True) v1 o) :
    VarsC n₀ Bo Bs (w1.setCell ⟨Bo, 0, none⟩ v1) o side ∧ Below n₀ w1 (w1.setCell ⟨Bo, 0, none⟩ v1) :=
  ⟨⟨⟨v1, hv.set v1, Kd.R_mono (Kd.R_set hR hv (by intro q hq; simp [Kd.string, Kd.scalar] at hq; omega) 0 v1) (fun _ _ => trivial)⟩, (Below.heap_setCell w1 ⟨Bo, 0, none⟩ v1 Bs hne).trans hb⟩, (Below.refl _ _).setCell (p := ⟨Bo, 0, none⟩) (by show n₀ ≤ Bo; exact hn) _⟩

set_option maxHeartbeats 4000000 in
set_option maxRecDepth 100000 in
theorem choose68_c (n₀ Bo Bs : Nat) (hn : n₀ ≤ Bo) (hne : Bs ≠ Bo) (o : List ByteArray) (side : Int) (x : S27) (A1 : Option Addr) (c1 : Nat) (A2 : Option Addr) (c2 : Nat) (A3 : Option Addr) (c3 : Nat) (W : World) (hW : n₀ ≤ W.heap.size) (h : VarsC n₀ Bo Bs W o side)
    (hl1 : x.f1.length ≤ c1) (hC1 : Kd.string.C W A1 x.f1.length x.f1) (hl3 : x.f3.length ≤ c3) (hC3 : (Kd.slice 9 Kd.string).C W A3 x.f3.length x.f3) (hlen : o.length + (chooseP side x).length ≤ 1000000) :
    Calls Try.prog 68 #[.agg #[.bool x.f0, .slice A1 x.f1.length c1, .slice A2 x.f2.length c2, .slice A3 x.f3.length c3], .pointer (some ⟨Bo, 0, none⟩), .pointer (some ⟨Bs, 0, none⟩)] W fun e w' => e = .returned (.tuple #[]) ∧ VarsC n₀ Bo Bs w' (o ++ chooseP side x) side ∧ Below n₀ W w' := by
  have h1 := varsC_alloc h (.cells #[.bool x.f0, .slice A1 x.f1.length c1, .slice A2 x.f2.length c2, .slice A3 x.f3.length c3] 27)
  have hBW : Below n₀ W (W.alloc (.cells #[.bool x.f0, .slice A1 x.f1.length c1, .slice A2 x.f2.length c2, .slice A3 x.f3.length c3] 27)) := (Below.refl n₀ W).alloc hW _
  have hCA := Kd.C_alloc hC1 (.cells #[.bool x.f0, .slice A1 x.f1.length c1, .slice A2 x.f2.length c2, .slice A3 x.f3.length c3] 27)
  have hCB := Kd.C_alloc hC3 (.cells #[.bool x.f0, .slice A1 x.f1.length c1, .slice A2 x.f2.length c2, .slice A3 x.f3.length c3] 27)
  have hWs : n₀ ≤ (W.alloc (.cells #[.bool x.f0, .slice A1 x.f1.length c1, .slice A2 x.f2.length c2, .slice A3 x.f3.length c3] 27)).heap.size := by simp; omega
  obtain ⟨⟨v, hv, hR⟩, hb⟩ := h1
  obtain ⟨A, c, rfl⟩ := Kd.R_slice hR
  have hvc := hv.cell
  have hvf := hv.frozen
  have hbc := hb.cell
  have HV := Aside0.mk hv
  have HBX := Aside0.mk hb
  have HR := Aside0.mk hR
  have HB := Aside0.mk hBW
  have HCA := Aside0.mk hCA
  have HCB := Aside0.mk hCB
  have HS := Aside0.mk hWs
  have HLEN := Aside0.mk hlen
  have HL3 := Aside0.mk hC3.2.1
  clear h hl1 hC1 hl3 hC3 hv hb hR hBW hCA hCB hWs hlen
  cases hx0 : x.f0 with
  | false =>
    have HCP : Aside0 (chooseP side x = x.f1) := ⟨by unfold chooseP; rw [if_pos hx0]⟩
    rw [hx0] at hvc hvf hbc HV HBX HR HB HCA HCB HS
    rw [HCP.out] at HLEN ⊢
    clear hx0
    go_enter Try.func68, Try.ntmps68
    go_wp2_with (first
      | (at_builtin; refine appN rfl (.tmp 8) (.tmp 10) rfl _ n₀ _ o x.f1 A1 c1 rfl rfl HR.out HCA.out HS.out HLEN.out ?_
         intro v1 w1 hR1 hB1 hg1
         obtain ⟨A9, k9, rfl⟩ := Kd.R_slice hR1
         have hv1 := HV.out.kept hg1 (Kd.R_ne HR.out HV.out (by decide))
         have hb1 := HBX.out.kept hg1 (Kd.R_ne HR.out HBX.out (by decide))
         have hc1 := hv1.cell
         have hf1 := hv1.frozen
         have V1 := Aside0.mk hv1
         have X1 := Aside0.mk hb1
         have R1 := Aside0.mk hR1
         have L1 := Aside0.mk hB1
         clear hv1 hb1 hR1 hB1 hg1))
    obtain ⟨x1, x2⟩ := varsC_box hn hne V1.out X1.out R1.out
    rw [List.length_append] at x1 x2
    first | go_end0 | (simp only [Exit.inBlock, Exit.then]; refine bodyPost_ret (results_none rfl _ _ _) rfl ?_) | refine bodyPost_ret (results_none rfl _ _ _) rfl ?_ | trace_state
    exact ⟨rfl, x1, (HB.out.trans L1.out).trans x2⟩
  | true =>
    rw [hx0] at hvc hvf hbc HV HBX HR HB HCA HCB HS
    by_cases hs1 : 1 ≤ side
    · by_cases hs2 : side ≤ (x.f3.length : Int)
      · have HCP : Aside0 (chooseP side x = rd_L1 x.f3 (side - 1)) := ⟨by unfold chooseP; rw [if_neg (by rw [hx0]; decide), if_pos ⟨hs1, hs2⟩]⟩
        rw [HCP.out] at HLEN ⊢
        have wsub : wrap64 (side - 1) = side - 1 := by have := HL3.out; unfold wrap64; omega
        have p9 : 0 ≤ side - 1 := by omega
        have q9 : side - 1 < (x.f3.length : Int) := by omega
        obtain ⟨ad, A5, c5, rfl, hxr, hl5, hC5⟩ := at_L1 HCB.out (side - 1) p9 q9
        rw [show (side - 1).toNat = side.toNat - 1 from by omega] at hxr
        have HC5 := Aside0.mk hC5
        have HXR := Aside0.mk hxr
        have d1 : decide (side ≥ 1) = true := decide_eq_true hs1
        have d2 : decide (1 ≤ side) = true := decide_eq_true hs1
        have d3 : decide (side ≤ (x.f3.length : Int)) = true := decide_eq_true hs2
        clear hx0 hC5 hl5
        have HVC := Aside0.mk hvc
        have HBC := Aside0.mk hbc
        go_enter Try.func68, Try.ntmps68
        go_wp2
        repeat (go_quiet (fail); try go_wp2)
        obtain ⟨W4, hW4⟩ : ∃ W4, W4 = (W.alloc (.cells #[.bool true, .slice A1 x.f1.length c1, .slice A2 x.f2.length c2, .slice (some ad) x.f3.length c3] 27)).drew := ⟨_, rfl⟩
        have hpc3 : (W.alloc (.cells #[.bool true, .slice A1 x.f1.length c1, .slice A2 x.f2.length c2, .slice (some ad) x.f3.length c3] 27)).drew.cell? ⟨W.heap.size, 3, none⟩ = some (.slice (some ad) x.f3.length c3) := blk_cell (Go.heap_alloc_new W _) 3
        have HR4 := Aside0.mk (Kd.R_drew HR.out)
        have HC4 := Aside0.mk (Kd.C_drew HC5.out)
        have HS4 : Aside0 (n₀ ≤ (W.alloc (.cells #[.bool true, .slice A1 x.f1.length c1, .slice A2 x.f2.length c2, .slice (some ad) x.f3.length c3] 27)).drew.heap.size) := ⟨HS.out⟩
        have HV4 : Aside0 (Boxed (W.alloc (.cells #[.bool true, .slice A1 x.f1.length c1, .slice A2 x.f2.length c2, .slice (some ad) x.f3.length c3] 27)).drew Bo 22 (Value.slice A o.length c)) := ⟨HV.out⟩
        have HBX4 : Aside0 (Boxed (W.alloc (.cells #[.bool true, .slice A1 x.f1.length c1, .slice A2 x.f2.length c2, .slice (some ad) x.f3.length c3] 27)).drew Bs 3 (Value.int IntKind.i64 side)) := ⟨HBX.out⟩
        have HB4 := Aside0.mk (below_drew HB.out)
        rw [← hW4] at HR4 HC4 HS4 HV4 HBX4 HB4
        refine start_ (n := 9) (S := fun w' => w'.cell? ⟨Bo, 0, none⟩ = some (.slice A o.length c) ∧ w'.cell? ⟨W.heap.size, 3, none⟩ = some (.slice (some ad) x.f3.length c3) ∧ w'.cell? ⟨Bs, 0, none⟩ = some (.int .i64 side) ∧ w'.cell? (ad.add (side.toNat - 1)) = some (.slice A5 (rd_L1 x.f3 (side - 1)).length c5)) (ds := [7, 8]) #[false, false, false, false, false, false, false, false, false] (by kernel_rfl) rfl rfl ⟨HVC.out, hpc3, HBC.out, HXR.out⟩ (fun hHeld => ?_)
        rw [← hW4] at hHeld ⊢
        clear hW4 hvc hvf hbc hxr hpc3
        refine pure_ (i := 1) (N := some 23) (v := ?_) (a' := ?_) #[false, true, false, false, false, false, false, false, false] rfl rfl (by kernel_rfl) (fun _ _ _ h => h) (Or.inl ⟨by rfl, ?_⟩) ?_ ?_
        rotate_left
        · intro w'
          go_simp
          with_reducible rfl
        rotate_left
        · simp only [Act.put, List.setIfInBounds_toArray, List.set_cons_zero, List.set_cons_succ, i64_w, i32_w]
          rfl
        refine take_ (i := 0) (N := some 22) (v := ?_) (a' := ?_) #[true, true, false, false, false, false, false, false, false] rfl rfl (by kernel_rfl) (fun _ _ _ h => h) (Or.inl ⟨by rfl, ?_⟩) hHeld ?_ ?_
        rotate_left
        · rintro w' ⟨s0, s1, s2, s3⟩
          go_simp
          with_reducible rfl
        rotate_left
        · simp only [Act.put, List.setIfInBounds_toArray, List.set_cons_zero, List.set_cons_succ, i64_w, i32_w]
          rfl
        refine take_ (i := 2) (N := some 24) (v := ?_) (a' := ?_) #[true, true, true, false, false, false, false, false, false] rfl rfl (by kernel_rfl) (fun _ _ _ h => h) (Or.inl ⟨by rfl, ?_⟩) hHeld ?_ ?_
        rotate_left
        · rintro w' ⟨s0, s1, s2, s3⟩
          go_simp
          with_reducible rfl
        rotate_left
        · simp only [Act.put, List.setIfInBounds_toArray, List.set_cons_zero, List.set_cons_succ, i64_w, i32_w]
          rfl
        refine take_ (i := 3) (N := some 25) (v := ?_) (a' := ?_) #[true, true, true, true, false, false, false, false, false] rfl rfl (by kernel_rfl) (fun _ _ _ h => h) (Or.inl ⟨by rfl, ?_⟩) hHeld ?_ ?_
        rotate_left
        · rintro w' ⟨s0, s1, s2, s3⟩
          go_simp
          with_reducible rfl
        rotate_left
        · simp only [Act.put, List.setIfInBounds_toArray, List.set_cons_zero, List.set_cons_succ, i64_w, i32_w]
          rfl
        refine pure_ (i := 4) (N := some 26) (v := ?_) (a' := ?_) #[true, true, true, true, true, false, false, false, false] rfl rfl (by kernel_rfl) (fun _ _ _ h => h) (Or.inl ⟨by rfl, ?_⟩) ?_ ?_
        rotate_left
        · intro w'
          go_simp
          with_reducible rfl
        rotate_left
        · simp only [Act.put, List.setIfInBounds_toArray, List.set_cons_zero, List.set_cons_succ, i64_w, i32_w]
          rfl
        refine pure_ (i := 5) (N := some 27) (v := ?_) (a' := ?_) #[true, true, true, true, true, true, false, false, false] rfl rfl (by kernel_rfl) (fun _ _ _ h => h) (Or.inl ⟨by rfl, ?_⟩) ?_ ?_
        rotate_left
        · intro w'
          go_simp
          with_reducible rfl
        rotate_left
        · simp only [Act.put, List.setIfInBounds_toArray, List.set_cons_zero, List.set_cons_succ, i64_w, i32_w]
          rfl
        refine take_ (i := 6) (N := some 28) (v := ?_) (a' := ?_) #[true, true, true, true, true, true, true, false, false] rfl rfl (by kernel_rfl) (fun _ _ _ h => h) (Or.inl ⟨by rfl, ?_⟩) hHeld ?_ ?_
        rotate_left
        · rintro w' ⟨s0, s1, s2, s3⟩
          go_simp
          with_reducible rfl
        rotate_left
        · simp only [Act.put, List.setIfInBounds_toArray, List.set_cons_zero, List.set_cons_succ, i64_w, i32_w]
          rfl
        refine last_ (i := 7) (N := some 29) #[true, true, true, true, true, true, true, true, false] rfl rfl (by kernel_rfl) (by decide) (fun K hK => ?_)
        refine appN_step _ (by rfl) (.tmp 22) (.tmp 28) rfl n₀ _ o (rd_L1 x.f3 (side - 1)) A5 c5 rfl rfl HR4.out HC4.out HS4.out HLEN.out ?_
        intro v1 w1 hR1 hB1 hg1
        obtain ⟨A9, k9, rfl⟩ := Kd.R_slice hR1
        have hv1 := HV4.out.kept hg1 (Kd.R_ne HR4.out HV4.out (by decide))
        have hb1 := HBX4.out.kept hg1 (Kd.R_ne HR4.out HBX4.out (by decide))
        obtain ⟨x1, x2⟩ := varsC_box hn hne hv1 hb1 hR1
        rw [List.length_append] at x1 x2
        have hc1 := hv1.cell
        have hf1 := hv1.frozen
        have L1 := Aside0.mk hB1
        clear hv1 hb1 hR1 hB1 hg1
        refine hK.out _ _ ?_
        clear hK K
        refine norm_ (a' := ?_) ?_ ?_
        rotate_left
        · show Act.put _ (some 29) _ = _
          simp only [Act.put, List.setIfInBounds_toArray, List.set_cons_zero, List.set_cons_succ, i64_w, i32_w]
          rfl
        refine last_ (i := 8) (N := none) #[true, true, true, true, true, true, true, true, true] rfl rfl (by kernel_rfl) (by decide) (fun K hK => ?_)
        refine skip_ (w1 := ?_) (by rfl) rfl ?_ ?_
        rotate_left
        · go_simp
          rfl
        refine hK.out _ _ ?_
        clear hK K
        refine done_ (by kernel_rfl) ?_

        go_wp2
        first | go_end0 | (simp only [Exit.inBlock, Exit.then]; refine bodyPost_ret (results_none rfl _ _ _) rfl ?_) | refine bodyPost_ret (results_none rfl _ _ _) rfl ?_ | trace_state
        exact ⟨rfl, x1, (HB4.out.trans L1.out).trans x2⟩
      · have HCP : Aside0 (chooseP side x = []) := ⟨by unfold chooseP; rw [if_neg (by rw [hx0]; decide), if_neg (fun h => hs2 h.2)]⟩
        rw [HCP.out, List.append_nil]
        have d1 : decide (side ≥ 1) = true := decide_eq_true hs1
        have d2 : decide (1 ≤ side) = true := decide_eq_true hs1
        have d3 : decide (side ≤ (x.f3.length : Int)) = false := decide_eq_false hs2
        clear hx0
        go_enter Try.func68, Try.ntmps68
        go_wp2
        repeat (go_quiet (fail); try go_wp2)
        first | go_end0 | (simp only [Exit.inBlock, Exit.then]; refine bodyPost_ret (results_none rfl _ _ _) rfl ?_) | refine bodyPost_ret (results_none rfl _ _ _) rfl ?_ | trace_state
        exact ⟨rfl, ⟨⟨_, HV.out, HR.out⟩, HBX.out⟩, HB.out⟩
    · have HCP : Aside0 (chooseP side x = []) := ⟨by unfold chooseP; rw [if_neg (by rw [hx0]; decide), if_neg (fun h => hs1 h.1)]⟩
      rw [HCP.out, List.append_nil]
      have d1 : decide (side ≥ 1) = false := decide_eq_false hs1
      have d2 : decide (1 ≤ side) = false := decide_eq_false hs1
      clear hx0
      go_enter Try.func68, Try.ntmps68
      go_wp2
      repeat (go_quiet (fail); try go_wp2)
      first | go_end0 | (simp only [Exit.inBlock, Exit.then]; refine bodyPost_ret (results_none rfl _ _ _) rfl ?_) | refine bodyPost_ret (results_none rfl _ _ _) rfl ?_ | trace_state
      exact ⟨rfl, ⟨⟨_, HV.out, HR.out⟩, HBX.out⟩, HB.out⟩

set_option maxHeartbeats 4000000 in
set_option maxRecDepth 100000 in
theorem each68_c (w0 : World) (Bo Bs : Nat) (hn : w0.heap.size ≤ Bo) (hne : Bs ≠ Bo) (side : Int) (A0 : Option Addr) (c0 : Nat) (l0 : List S27) (hr0 : Kd.C k27 w0 A0 l0.length l0) (W : World) (hB0 : Below w0.heap.size w0 W) (h : VarsC w0.heap.size Bo Bs W [] side) (hlen : (chooseG side l0).length ≤ 1000000) :
    Calls Try.prog 64 #[.slice A0 l0.length c0, .func (.func 68) #[] #[.pointer (some ⟨Bo, 0, none⟩), .pointer (some ⟨Bs, 0, none⟩)]] W fun e w' => e = .returned (.tuple #[]) ∧ VarsC w0.heap.size Bo Bs w' (chooseG side l0) side ∧ Below w0.heap.size w0 w' := by
  have R0 := Aside0.mk hr0
  have HV0 := Aside0.mk h
  have HB0 := Aside0.mk hB0
  have HL := Aside0.mk hr0.2.1
  have HLE := Aside0.mk hlen
  clear hr0 h hB0 hlen
  go_enter Try.func64, Try.ntmps64
  go_wp2
  go_loopg [8] l0.length (fun kq v8 wr => ∃ i : Nat, v8 = .int .i64 (i : Int) ∧ Aside0 (i ≤ l0.length ∧ kq = l0.length - i) ∧ Aside0 (VarsC w0.heap.size Bo Bs wr (chooseG side (l0.take i)) side) ∧ Aside0 (Below w0.heap.size w0 wr))
  case atStart => exact ⟨0, rfl, ⟨Nat.zero_le _, rfl⟩, ⟨by simpa [chooseG] using HV0.out⟩, HB0⟩
  case round =>
    obtain ⟨i, rfl, HI, HV, HB⟩ := hrel
    have hli := HL.out
    by_cases c4 : i < l0.length
    · have c4b0 : decide ((i : Int) < (l0.length : Int)) = true := decide_eq_true (by omega)
      have c4b1 : decide (i < l0.length) = true := decide_eq_true c4
      obtain ⟨z, g0⟩ : ∃ z, l0[i]? = some z := ⟨_, List.getElem?_eq_getElem c4⟩
      obtain ⟨ad, A1, c1, A2, c2, A3, c3, rfl, hx0, hx1, hx2, hx3, hl1, hi1, hl2, hi2, hl3, hi3⟩ := C_piece (Kd.C_below R0.out HB.out) i z g0
      have HSN := Aside0.mk (chooseG_snoc side l0 i z g0)
      have HPL := Aside0.mk (chooseG_pre side l0 (i + 1))
      have HC1 := Aside0.mk hi1
      have HC3 := Aside0.mk hi3
      clear hl2 hi2 g0 hi1 hi3
      have bi : (i : Int) < 9223372036854775807 := by omega
      go_wp2_with (go_at_call 68; (with_reducible refine (choose68_c w0.heap.size Bo Bs hn hne (chooseG side (l0.take i)) side z A1 c1 A2 c2 A3 c3 _ ?hW ?hv hl1 ?hC1 hl3 ?hC3 ?hl).mono ?_); (case hW => exact Nat.le_trans (below_size HB.out) (by simp)); (case hv => exact varsC_alloc HV.out _); (case hC1 => exact Kd.C_alloc HC1.out _); (case hC3 => exact Kd.C_alloc HC3.out _); (case hl => have h1 := HPL.out; have h2 := HLE.out; rw [HSN.out, List.length_append] at h1; omega); rintro e w' ⟨rfl, hv2, hb2⟩; rw [← HSN.out] at hv2; have n1 := Aside0.mk hv2; have n2 := Aside0.mk ((below_alloc HB.out _).trans hb2); clear hv2 hb2)
      go_roundg (l0.length - (i + 1))
      case measure => have := HI.out; omega
      case rel => exact ⟨i + 1, by go_num, ⟨by omega, rfl⟩, n1, n2⟩
    · have c4b0 : decide ((i : Int) < (l0.length : Int)) = false := decide_eq_false (by omega)
      have c4b1 : decide (i < l0.length) = false := decide_eq_false c4
      have HT := Aside0.mk (List.take_of_length_le (l := l0) (i := i) (by omega))
      rw [HT.out] at HV
      clear c4
      go_wp2
      first | go_end0 | (simp only [Exit.inBlock, Exit.then]; refine bodyPost_ret (results_none rfl _ _ _) rfl ?_) | refine bodyPost_ret (results_none rfl _ _ _) rfl ?_ | trace_state
      exact ⟨rfl, HV.out, HB.out⟩

def pick_Choose.f (k : Nat) (l0 : List S27) (a1 : Int) : Option (List ByteArray) := if (chooseG a1 l0).length ≤ 1000000 then some (chooseG a1 l0) else none
theorem pick_Choose.mono : ∀ a0 a1 k, LeO (pick_Choose.f k a0 a1) (pick_Choose.f (k + 1) a0 a1) := fun _ _ _ => LeO.refl _
set_option maxHeartbeats 1000000 in
set_option maxRecDepth 100000 in
theorem pick_Choose.calls (k : Nat) (A0 : Option Addr) (c0 : Nat) (l0 : List S27) (a1 : Int) (r : List ByteArray) (w : World) (hr0 : Kd.C k27 w A0 l0.length l0) (hc0 : l0.length ≤ c0) (h : pick_Choose.f k l0 a1 = some r) :
    Calls Try.prog 44 #[.slice A0 l0.length c0, .int .i64 a1] w fun e w' => ∃ v0_ : Value, e = .returned (v0_) ∧ Kd.R Kd.string 9 w' w.heap.size (fun _ => True) v0_ r ∧ Below w.heap.size w w' := by
  unfold pick_Choose.f at h
  by_cases hb : (chooseG a1 l0).length ≤ 1000000
  · rw [if_pos hb] at h
    obtain rfl := Option.some.inj h
    have HB1 := Aside0.mk (below_alloc (below_alloc (Below.refl w.heap.size w) (.cells #[.int .i64 a1] 3)) (.cells #[.slice none 0 0] 22))
    have HVC : Aside0 (VarsC w.heap.size (w.heap.size + 1) w.heap.size ((w.alloc (.cells #[.int .i64 a1] 3)).alloc (.cells #[.slice none 0 0] 22)) [] a1) := ⟨⟨.slice none 0 0, by
      have := Go.heap_alloc_new (w.alloc (.cells #[.int .i64 a1] 3)) (.cells #[.slice none 0 0] 22)
      rw [World.size_alloc] at this
      exact this, Kd.R_nil _ _ _ _ _⟩, blk_later (Go.heap_alloc_new w _) (below_alloc (Below.refl _ _) _)⟩
    have HEC := Aside0.mk (each68_c w (w.heap.size + 1) w.heap.size (by omega) (by omega) a1 A0 c0 l0 hr0 _ HB1.out HVC.out hb)
    clear hr0 hc0 hb h HVC
    go_enter Try.func44, Try.ntmps44
    go_wp2_with (go_at_call 64; (with_reducible refine HEC.out.mono ?_); rintro e w' ⟨rfl, ⟨⟨v, hv, hR⟩, hbx⟩, hb⟩; have hvc := hv.cell; have HR := Aside0.mk hR; have HB := Aside0.mk hb; clear hv hR hbx hb)
    go_ret
    exact ⟨v, rfl, HR.out, HB.out⟩
  · rw [if_neg hb] at h
    exact absurd h (by simp)
end Go.Proofs.Ytiaoppikdgoieaa.M
namespace Go.Proofs.Ytiaoppikdgoieaa.M
open Go.RowKit Go.Proofs Go.Proofs.YtiaoppikdgoieaaW.PrintWords Go.Proofs.YtiaoppikdgoieaaW.PrintLast Go.Proofs.YtiaoppikdgoieaaW.PrintMore Go.Proofs.Ytiaoppikdgoieaa.Hand
attribute [local go_sem] Oper.semAt_some
set_option linter.unusedVariables false
set_option linter.unusedSimpArgs false

theorem zerosN {ops : Array Oper} {rest : List Oper} {op : Oper} {a : Act} {Q : Exit → Act → World → Prop} (hgd : op.guard = none) (s x : Operand) (hop : op.op = .call { callee := .builtin .append, args := #[s, x], argTypes := #[22, 3] })
    (W : World) (n₀ : Nat) (n : Nat) (hs : a.eval s = .slice none 0 0) (hx : a.eval x = .int .i64 (n : Int)) (hn : n₀ ≤ W.heap.size) (hl : n ≤ 1000000)
    (h : ∀ A c w1, Kd.R Kd.string 9 w1 n₀ (fun _ => True) (.slice A 0 c) [] → Below n₀ W w1 → wpList Try.prog ops Q rest (a.put op.dst (.slice A n c)) w1) :
    wpList Try.prog ops Q (op :: rest) a W :=
  Kd.R_append_zeros Kd.string (w0 := W) n₀ hgd s x 22 3 9 (.string ⟨#[]⟩) 16 hop Try.underlying22 Try.underlying3 info9 rfl (by decide) (by omega) (.slice none 0 0) [] (⟨#[]⟩ : ByteArray) (n : Int) (fun _ => True) hs hx rfl (fun _ _ => trivial) (Kd.R_nil _ _ _ _ _) (by omega) (Below.refl _ _) hn (by simp; omega)
    (fun v1 w1 h1 h2 h3 _ => by
      obtain ⟨A, c, rfl⟩ := Kd.R_slice h1
      have h4 := Kd.R_take (m := 0) h1 (Nat.zero_le _)
      rw [List.take_zero] at h4
      have := h A c w1 h4 h2
      simpa using this)
set_option maxHeartbeats 4000000 in
set_option maxRecDepth 100000 in
theorem grow79_c (w : World) (n : Nat) (hn : n ≤ 1000000) :
    Calls Try.prog 79 #[.slice none 0 0, .int .i64 (n : Int)] w fun e w' => ∃ v, e = .returned v ∧ Kd.R Kd.string 9 w' w.heap.size (fun _ => True) v [] ∧ Below w.heap.size w w' := by
  have d1 : decide ((n : Int) < 0) = false := decide_eq_false (by omega)
  have w1 : wrap64 ((n : Int) - 0) = (n : Int) := by unfold wrap64; omega
  by_cases h0 : n = 0
  · subst h0
    go_enter Try.func79, Try.ntmps79
    go_wp2
    go_ret
    exact ⟨_, rfl, Kd.R_nil _ _ _ _ _, Below.refl _ _⟩
  · have d2 : decide ((n : Int) > 0) = true := decide_eq_true (by omega)
    have d3 : decide (0 < (n : Int)) = true := decide_eq_true (by omega)
    have d4 : decide (0 < n) = true := decide_eq_true (by omega)
    have HN := Aside0.mk hn
    have b0 : 0 ≤ (n : Int) := by omega
    have b1 : 0 < n := by omega
    clear h0
    go_enter Try.func79, Try.ntmps79
    go_wp2_with (first | (at_builtin; refine zerosN rfl (.tmp 20) (.tmp 21) rfl w w.heap.size n rfl rfl (Nat.le_refl _) HN.out ?_
                          intro A c w1 hR hB
                          have HR := Aside0.mk hR
                          have HB := Aside0.mk hB
                          clear hR hB))
    go_ret
    exact ⟨_, rfl, HR.out, HB.out⟩

theorem flat_pre (l : List (List ByteArray)) (i : Nat) : (l.take i).flatten.length ≤ l.flatten.length := by
  have e : l.flatten = (l.take i).flatten ++ (l.drop i).flatten := by rw [← List.flatten_append, List.take_append_drop]
  rw [e]; simp
theorem flat_snoc (l : List (List ByteArray)) (i : Nat) (x : List ByteArray) (h : l[i]? = some x) : (l.take (i + 1)).flatten = (l.take i).flatten ++ x := by
  rw [take_snoc l i x h]; simp
set_option maxHeartbeats 4000000 in
set_option maxRecDepth 100000 in
theorem concat76_c (w : World) (A0 : Option Addr) (c0 : Nat) (l0 : List (List ByteArray)) (hr0 : Kd.C (Kd.slice 9 Kd.string) w A0 l0.length l0) (hc0 : l0.length ≤ c0) (hlen : l0.flatten.length ≤ 1000000) (hl0 : l0.length ≤ 1000000) :
    Calls Try.prog 76 #[.slice A0 l0.length c0] w fun e w' => ∃ v, e = .returned v ∧ Kd.R Kd.string 9 w' w.heap.size (fun _ => True) v l0.flatten ∧ Below w.heap.size w w' := by
  have R0 := Aside0.mk hr0
  have HLE := Aside0.mk hlen
  have HL0 := Aside0.mk hl0
  clear hr0 hc0 hlen hl0
  go_enter Try.func76, Try.ntmps76
  go_wp2
  go_loopg [3, 11] l0.length (fun kq v3 v11 wr => ∃ i : Nat, v11 = .int .i64 (i : Int) ∧ v3 = .int .i64 ((l0.take i).flatten.length : Int) ∧ w = wr ∧ Aside0 (i ≤ l0.length ∧ kq = l0.length - i))
  case atStart => exact ⟨0, rfl, rfl, rfl, ⟨Nat.zero_le _, rfl⟩⟩
  case round =>
    obtain ⟨i, rfl, rfl, rfl, HI⟩ := hrel
    by_cases c4 : i < l0.length
    · have c4b0 : decide ((i : Int) < (l0.length : Int)) = true := decide_eq_true (by omega)
      have c4b1 : decide (i < l0.length) = true := decide_eq_true c4
      obtain ⟨z, g0⟩ : ∃ z, l0[i]? = some z := ⟨_, List.getElem?_eq_getElem c4⟩
      obtain ⟨ad, A1, c1, rfl, hx, hl1, hi1⟩ := C_row R0.out i z g0
      have HSN := Aside0.mk (flat_snoc l0 i z g0)
      have HPL := Aside0.mk (flat_pre l0 (i + 1))
      obtain ⟨m, hm⟩ : ∃ m, (l0.take i).flatten.length = m := ⟨_, rfl⟩
      have HM := Aside0.mk hm
      rw [hm]
      have hs : m + z.length ≤ 1000000 := by have h1 := HPL.out; have h2 := HLE.out; rw [HSN.out, List.length_append, hm] at h1; omega
      have w1 : wrap64 ((m : Int) + (z.length : Int)) = ((m + z.length : Nat) : Int) := by unfold wrap64; omega
      have w2 : wrap64 ((i : Int) + 1) = ((i + 1 : Nat) : Int) := by have := HL0.out; unfold wrap64; omega
      have d1 : decide (((m + z.length : Nat) : Int) < 0) = false := decide_eq_false (by omega)
      have HW2 := Aside0.mk w2
      have HS := Aside0.mk hs
      clear hm hs w2
      go_wp2
      go_roundg (l0.length - (i + 1))
      case measure => have := HI.out; omega
      case rel => exact ⟨i + 1, by first | rfl | (simp only [i64_w]; rw [HW2.out]) | (rw [HW2.out]), by rw [HSN.out, List.length_append, HM.out]; have := HS.out; first | rfl | (simp; unfold wrap64; omega), rfl, ⟨by omega, rfl⟩⟩
    · have hil : l0.take i = l0 := List.take_of_length_le (by omega)
      have c4b0 : decide ((i : Int) < (l0.length : Int)) = false := decide_eq_false (by omega)
      have c4b1 : decide (i < l0.length) = false := decide_eq_false c4
      obtain ⟨m, hm⟩ : ∃ m, l0.flatten.length = m := ⟨_, rfl⟩
      have HMM : Aside0 (m ≤ 1000000) := ⟨by rw [← hm]; exact HLE.out⟩
      rw [hil, hm]
      clear hil c4 HI hm
      go_wp2_with (go_at_call 79; (with_reducible refine (grow79_c _ m HMM.out).mono ?_); rintro e w2 ⟨v, rfl, hR, hB⟩; have HR := Aside0.mk hR; have HB := Aside0.mk hB; clear hR hB)
      go_loopg [6, 27] l0.length (fun kq v6 v27 wr => ∃ i : Nat, v27 = .int .i64 (i : Int) ∧ Aside0 (i ≤ l0.length ∧ kq = l0.length - i) ∧ Aside0 (Kd.R Kd.string 9 wr w.heap.size (fun _ => True) v6 (l0.take i).flatten) ∧ Aside0 (Below w.heap.size w wr))
      case atStart => exact ⟨0, rfl, ⟨Nat.zero_le _, rfl⟩, ⟨by simpa using HR.out⟩, HB⟩
      case round =>
        clear HR HB
        obtain ⟨i, rfl, HI, HR, HB⟩ := hrel
        by_cases c4 : i < l0.length
        · have c4b0 : decide ((i : Int) < (l0.length : Int)) = true := decide_eq_true (by omega)
          have c4b1 : decide (i < l0.length) = true := decide_eq_true c4
          obtain ⟨z, g0⟩ : ∃ z, l0[i]? = some z := ⟨_, List.getElem?_eq_getElem c4⟩
          obtain ⟨ad, A1, c1, rfl, hx, hl1, hi1⟩ := C_row (Kd.C_below R0.out HB.out) i z g0
          have HSN := Aside0.mk (flat_snoc l0 i z g0)
          have HPL := Aside0.mk (flat_pre l0 (i + 1))
          have HC1 := Aside0.mk hi1
          have HS : Aside0 ((l0.take i).flatten.length + z.length ≤ 1000000) := ⟨by have h1 := HPL.out; have h2 := HLE.out; rw [HSN.out, List.length_append] at h1; omega⟩
          obtain ⟨A9, k9, rfl⟩ := Kd.R_slice HR.out
          have HW2 : Aside0 (wrap64 ((i : Int) + 1) = ((i + 1 : Nat) : Int)) := ⟨by have := HL0.out; unfold wrap64; omega⟩
          go_wp2_with (first | (at_builtin; refine appN rfl (.tmp 31) (.tmp 32) rfl _ w.heap.size _ _ z A1 c1 rfl rfl HR.out HC1.out (below_size HB.out) HS.out ?_
                                intro v1 w1 hR1 hB1 hg1
                                rw [← HSN.out] at hR1
                                have R1 := Aside0.mk hR1
                                have B1 := Aside0.mk (HB.out.trans hB1)
                                clear hR1 hB1 hg1))
          go_roundg (l0.length - (i + 1))
          case measure => have := HI.out; omega
          case rel => exact ⟨i + 1, by first | rfl | (simp only [i64_w]; rw [HW2.out]) | (rw [HW2.out]), ⟨by omega, rfl⟩, R1, B1⟩
        · have hil : l0.take i = l0 := List.take_of_length_le (by omega)
          have c4b0 : decide ((i : Int) < (l0.length : Int)) = false := decide_eq_false (by omega)
          have c4b1 : decide (i < l0.length) = false := decide_eq_false c4
          rw [hil] at HR
          clear hil c4 HI
          go_wp2
          go_ret
          exact ⟨_, rfl, HR.out, HB.out⟩
end Go.Proofs.Ytiaoppikdgoieaa.M
namespace Go.Proofs.Ytiaoppikdgoieaa.M
open Go.RowKit Go.Proofs Go.Proofs.YtiaoppikdgoieaaW.PrintWords Go.Proofs.YtiaoppikdgoieaaW.PrintLast Go.Proofs.YtiaoppikdgoieaaW.PrintMore Go.Proofs.Ytiaoppikdgoieaa.Hand
attribute [local go_sem] Oper.semAt_some
set_option linter.unusedVariables false
set_option linter.unusedSimpArgs false

set_option maxHeartbeats 4000000 in
set_option maxRecDepth 100000 in
theorem last75_nil (W : World) (B : Nat) (A : Option Addr) (c : Nat) (hB : Boxed W B 75 (.slice A 0 c)) :
    Calls Try.prog 75 #[.pointer (some ⟨B, 0, none⟩)] W fun e w' => e = .returned (.pointer none) ∧ w' = W := by
  have hc := hB.cell
  clear hB
  go_enter Try.func75, Try.ntmps75
  go_wp2
  go_ret
  exact ⟨rfl, rfl⟩
set_option maxHeartbeats 4000000 in
set_option maxRecDepth 100000 in
theorem last75_conf (W : World) (B g m cap : Nat) (hm : m ≤ 1000000) (hB : Boxed W B 75 (.slice (some ⟨g, 0, none⟩) (m + 1) cap)) (h0 : W.cell? ⟨g, m * 4, none⟩ = some (.bool true)) :
    Calls Try.prog 75 #[.pointer (some ⟨B, 0, none⟩)] W fun e w' => e = .returned (.pointer none) ∧ w' = W := by
  have hc := hB.cell
  clear hB
  go_enter Try.func75, Try.ntmps75
  go_wp2
  go_ret
  exact ⟨rfl, rfl⟩
set_option maxHeartbeats 4000000 in
set_option maxRecDepth 100000 in
theorem last75_text (W : World) (B g m cap : Nat) (hm : m ≤ 1000000) (hB : Boxed W B 75 (.slice (some ⟨g, 0, none⟩) (m + 1) cap)) (h0 : W.cell? ⟨g, m * 4, none⟩ = some (.bool false)) :
    Calls Try.prog 75 #[.pointer (some ⟨B, 0, none⟩)] W fun e w' => e = .returned (.pointer (some ⟨g, m * 4, none⟩)) ∧ w' = W := by
  have hc := hB.cell
  clear hB
  go_enter Try.func75, Try.ntmps75
  go_wp2
  go_ret
  exact ⟨rfl, rfl⟩
end Go.Proofs.Ytiaoppikdgoieaa.M
namespace Go.Proofs.Ytiaoppikdgoieaa.M
open Go.RowKit Go.Proofs Go.Proofs.YtiaoppikdgoieaaW.PrintWords Go.Proofs.YtiaoppikdgoieaaW.PrintLast Go.Proofs.YtiaoppikdgoieaaW.PrintMore Go.Proofs.Ytiaoppikdgoieaa.Hand
attribute [local go_sem] Oper.semAt_some
set_option linter.unusedVariables false
set_option linter.unusedSimpArgs false

/-- Pieces, one more. -/
def putG (acc : List S27) (x : S27) : List S27 :=
  if x.f0 = true then acc ++ [⟨true, [], x.f2, x.f3⟩]
  else if x.f1 = [] then acc
  else if acc ≠ [] ∧ (rd_T27 acc ((acc.length - 1 : Nat) : Int)).f0 = false then
    acc.set (acc.length - 1) ⟨false, (rd_T27 acc ((acc.length - 1 : Nat) : Int)).f1 ++ x.f1, (rd_T27 acc ((acc.length - 1 : Nat) : Int)).f2, (rd_T27 acc ((acc.length - 1 : Nat) : Int)).f3⟩
  else acc ++ [⟨false, x.f1, [], []⟩]
theorem cell_alloc_ {W : World} (o : Obj) {p : Addr} {x : Value} (h : W.cell? p = some x) : (W.alloc o).cell? p = some x :=
  ((below_alloc (Below.refl W.heap.size W) o).cell (World.block_lt_of_cell? _ _ h)).trans h
def okP (P : Nat → Prop) (B k : Nat) : Prop := (P k ∧ k < B) ∨ B + 1 ≤ k
theorem appP_step {ops : Array Oper} {op : Oper} {a : Act} {Q : Exit → Act → World → Prop} {Kc : Act → World → Prop} (W : World) (hw : Region.wanted op (yielded ops a.tmps) = true) (s x : Operand) (hop : op.op = .call { callee := .builtin .append, args := #[s, x], argTypes := #[48, 48] })
    (B : Nat) (P : Nat → Prop) (acc : List S27) (y : S27) (cs : List Value) (v : Value) (hs : a.eval s = v) (hx : a.eval x = .slice (some ⟨W.heap.size, 0, none⟩) 1 1) (hy : Kd.FK k27 W (fun k => P k ∧ k < B) y cs) (HO : Kd.N k27 27 W (B + 1) (okP P B) v acc) (hn : B + 1 ≤ W.heap.size) (hl : acc.length ≤ 1000000)
    (h : ∀ v1 w1, Kd.N k27 27 w1 (B + 1) (okP P B) v1 (acc ++ [y]) → Below (B + 1) W w1 → W.grownBy w1 v.ownBlock → Kc (a.put op.dst v1) w1) :
    if Region.wanted op (yielded ops a.tmps) = true then Oper.wp Try.prog op a (W.alloc (.cells cs.toArray 27)) Kc Q else Kc (a.put op.dst undef) (W.alloc (.cells cs.toArray 27)) :=
  Kd.N_append_step k27 (w0 := W) (B + 1) hw s x 48 27 (.agg #[(.bool false), (.slice none 0 0), (.slice none 0 0), (.slice none 0 0)]) 80 hop Try.underlying48 info27 rfl (by decide) (by omega) v acc y cs (okP P B) (fun k => P k ∧ k < B) hs hx hy
    (fun k hk => ⟨.inl hk, fun he => by have := Kd.N_base HO k he.symm; have := hk.2; omega⟩) (fun k hk => .inr (by omega)) HO (Below.refl _ _) hn (by omega) (fun v1 w1 h1 h2 h3 _ => h v1 w1 h1 h2 h3)
theorem putP_box {B : Nat} {P : Nat → Prop} {w1 : World} {v v1 : Value} {acc : List S27} (hv : Boxed w1 B 75 v) (hN : Kd.N k27 27 w1 (B + 1) (okP P B) v1 acc) :
    Boxed (w1.setCell ⟨B, 0, none⟩ v1) B 75 v1 ∧ Kd.N k27 27 (w1.setCell ⟨B, 0, none⟩ v1) (B + 1) (okP P B) v1 acc ∧ Below B w1 (w1.setCell ⟨B, 0, none⟩ v1) :=
  ⟨hv.set v1, Kd.N_far hN (fun k hk => by show k ≠ B; rcases hk with hk | hk; exact Nat.ne_of_lt hk.2; omega) v1, (Below.refl _ _).setCell (p := ⟨B, 0, none⟩) (Nat.le_refl _) _⟩
/-- Two rows, side by side in a block that was made just now. -/
theorem C_two {W : World} {a1 a2 : Option Addr} {c1 c2 : Nat} {l1 l2 : List ByteArray} (h1 : l1.length ≤ c1) (g1 : Kd.string.C W a1 l1.length l1) (h2 : l2.length ≤ c2) (g2 : Kd.string.C W a2 l2.length l2) :
    (Kd.slice 9 Kd.string).C (W.alloc (.cells #[.slice a1 l1.length c1, .slice a2 l2.length c2] 22)) (some ⟨W.heap.size, 0, none⟩) 2 [l1, l2] := by
  have hb := Go.heap_alloc_new W (.cells #[.slice a1 l1.length c1, .slice a2 l2.length c2] 22)
  have k0 := blk_cell hb 0
  have k1 := blk_cell hb 1
  simp only [List.getElem?_toArray, List.getElem?_cons_zero, List.getElem?_cons_succ] at k0 k1
  refine ⟨rfl, by omega, fun _ => ⟨_, rfl, fun j p hj => ?_⟩⟩
  rcases j with _ | _ | j
  · obtain rfl : l1 = p := by simpa using hj
    refine ⟨[.slice a1 l1.length c1], rfl, ⟨a1, c1, rfl, h1, Kd.C_alloc g1 _⟩, fun i u hu => ?_⟩
    have hi : i = 0 := by have := (List.getElem?_eq_some_iff.1 hu).1; simpa using this
    subst hi
    obtain rfl : Value.slice a1 l1.length c1 = u := by simpa using hu
    exact k0
  · obtain rfl : l2 = p := by simpa using hj
    refine ⟨[.slice a2 l2.length c2], rfl, ⟨a2, c2, rfl, h2, Kd.C_alloc g2 _⟩, fun i u hu => ?_⟩
    have hi : i = 0 := by have := (List.getElem?_eq_some_iff.1 hu).1; simpa using this
    subst hi
    obtain rfl : Value.slice a2 l2.length c2 = u := by simpa using hu
    exact k1
  · simp at hj
theorem concat2_c (W : World) (a1 a2 : Option Addr) (c1 c2 : Nat) (l1 l2 : List ByteArray) (h1 : l1.length ≤ c1) (g1 : Kd.string.C W a1 l1.length l1) (h2 : l2.length ≤ c2) (g2 : Kd.string.C W a2 l2.length l2) (hlen : l1.length + l2.length ≤ 1000000) :
    Calls Try.prog 76 #[.slice (some ⟨W.heap.size, 0, none⟩) 2 2] (W.alloc (.cells #[.slice a1 l1.length c1, .slice a2 l2.length c2] 22)) fun e w' => ∃ A9 c9, e = .returned (.slice A9 (l1 ++ l2).length c9) ∧ (l1 ++ l2).length ≤ c9 ∧ Kd.F Kd.string w' (fun k => W.heap.size ≤ k) A9 (l1 ++ l2).length (l1 ++ l2) ∧ Below W.heap.size W w' := by
  refine (concat76_c (W.alloc (.cells #[.slice a1 l1.length c1, .slice a2 l2.length c2] 22)) (some ⟨W.heap.size, 0, none⟩) 2 [l1, l2] (C_two h1 g1 h2 g2) (by simp) (by simpa using hlen) (by simp)).mono ?_
  rintro e w' ⟨v, rfl, hR, hB⟩
  have ef : [l1, l2].flatten = l1 ++ l2 := by simp
  rw [ef] at hR
  obtain ⟨A9, c9, rfl⟩ := Kd.R_slice hR
  refine ⟨A9, c9, rfl, (Kd.R_reads' hR).2.1, Kd.R_F (Kd.R_mono (Kd.R_bound hR) (fun k hk => ?_)), below_step (below_alloc (Below.refl _ _) _) hB⟩
  have := hk.2.1
  simp at this
  omega
/-- A later world, in which a block that was made since has been written. -/
theorem N_later {B : Nat} {P : Nat → Prop} {W w3 : World} {v : Value} {acc : List S27} (h : Kd.N k27 27 W (B + 1) (okP P B) v acc) (hb : Below W.heap.size W w3) : Kd.N k27 27 w3 (B + 1) (okP P B) v acc := Kd.N_below h hb
theorem last_cells {B : Nat} {P : Nat → Prop} {W : World} {g cap m : Nat} {acc : List S27} (h : Kd.N k27 27 W (B + 1) (okP P B) (.slice (some ⟨g, 0, none⟩) acc.length cap) acc) (hm : acc.length = m + 1) :
    ∃ b1 d1 b2 d2 b3 d3, W.cell? ⟨g, m * 4, none⟩ = some (.bool (rd_T27 acc (m : Int)).f0) ∧ W.cell? ⟨g, m * 4 + 1, none⟩ = some (.slice b1 (rd_T27 acc (m : Int)).f1.length d1) ∧ W.frozen? ⟨g, m * 4 + 1, none⟩ = false ∧
      (∀ j u, [Value.bool (rd_T27 acc (m : Int)).f0, .slice b1 (rd_T27 acc (m : Int)).f1.length d1, .slice b2 (rd_T27 acc (m : Int)).f2.length d2, .slice b3 (rd_T27 acc (m : Int)).f3.length d3][j]? = some u → W.cell? ⟨g, m * 4 + j, none⟩ = some u) ∧
      (rd_T27 acc (m : Int)).f1.length ≤ d1 ∧ Kd.F Kd.string W (fun k => okP P B k ∧ k ≠ g) b1 (rd_T27 acc (m : Int)).f1.length (rd_T27 acc (m : Int)).f1 ∧
      (rd_T27 acc (m : Int)).f2.length ≤ d2 ∧ Kd.F Kd.string W (fun k => okP P B k ∧ k ≠ g) b2 (rd_T27 acc (m : Int)).f2.length (rd_T27 acc (m : Int)).f2 ∧
      (rd_T27 acc (m : Int)).f3.length ≤ d3 ∧ Kd.F (Kd.slice 9 Kd.string) W (fun k => okP P B k ∧ k ≠ g) b3 (rd_T27 acc (m : Int)).f3.length (rd_T27 acc (m : Int)).f3 := by
  obtain ⟨cs, hl, hM, hcc, hfr⟩ := Kd.N_elem h z27 (m : Int) (by omega) (by omega)
  have e : acc.getD ((m : Int)).toNat z27 = rd_T27 acc (m : Int) := rfl
  rw [e] at hM
  obtain ⟨b1, d1, b2, d2, b3, d3, rfl, l1, g1, l2, g2, l3, g3⟩ := k27_openF hM
  have hcc' : ∀ j u, [Value.bool (rd_T27 acc (m : Int)).f0, .slice b1 (rd_T27 acc (m : Int)).f1.length d1, .slice b2 (rd_T27 acc (m : Int)).f2.length d2, .slice b3 (rd_T27 acc (m : Int)).f3.length d3][j]? = some u → W.cell? ⟨g, m * 4 + j, none⟩ = some u := hcc
  exact ⟨b1, d1, b2, d2, b3, d3, hcc' 0 _ rfl, hcc' 1 _ rfl, hfr 1, hcc', l1, g1, l2, g2, l3, g3⟩
/-- The last piece's text, written anew. -/
theorem last_put {B : Nat} {P : Nat → Prop} {W : World} {g cap m : Nat} {acc : List S27} {b1 b2 b3 A9 : Option Addr} {d1 d2 d3 c9 : Nat} {t : List ByteArray} (h : Kd.N k27 27 W (B + 1) (okP P B) (.slice (some ⟨g, 0, none⟩) acc.length cap) acc) (hm : acc.length = m + 1)
    (hcc : ∀ j u, [Value.bool (rd_T27 acc (m : Int)).f0, .slice b1 (rd_T27 acc (m : Int)).f1.length d1, .slice b2 (rd_T27 acc (m : Int)).f2.length d2, .slice b3 (rd_T27 acc (m : Int)).f3.length d3][j]? = some u → W.cell? ⟨g, m * 4 + j, none⟩ = some u)
    (l9 : t.length ≤ c9) (g9 : Kd.F Kd.string W (fun k => okP P B k ∧ k ≠ g) A9 t.length t)
    (l2 : (rd_T27 acc (m : Int)).f2.length ≤ d2) (g2 : Kd.F Kd.string W (fun k => okP P B k ∧ k ≠ g) b2 (rd_T27 acc (m : Int)).f2.length (rd_T27 acc (m : Int)).f2) (l3 : (rd_T27 acc (m : Int)).f3.length ≤ d3) (g3 : Kd.F (Kd.slice 9 Kd.string) W (fun k => okP P B k ∧ k ≠ g) b3 (rd_T27 acc (m : Int)).f3.length (rd_T27 acc (m : Int)).f3) :
    Kd.N k27 27 (W.setCell ⟨g, m * 4 + 1, none⟩ (.slice A9 t.length c9)) (B + 1) (okP P B) (.slice (some ⟨g, 0, none⟩) acc.length cap) (acc.set m ⟨(rd_T27 acc (m : Int)).f0, t, (rd_T27 acc (m : Int)).f2, (rd_T27 acc (m : Int)).f3⟩) :=
  (Kd.N_seg (d := k27) h (m : Int) (by omega) (by omega) (c := [Value.bool (rd_T27 acc (m : Int)).f0, .slice b1 (rd_T27 acc (m : Int)).f1.length d1, .slice b2 (rd_T27 acc (m : Int)).f2.length d2, .slice b3 (rd_T27 acc (m : Int)).f3.length d3]) (seg := [.slice A9 t.length c9]) (j := 1) rfl hcc (by show 1 + 1 ≤ 4; omega) (x' := ⟨(rd_T27 acc (m : Int)).f0, t, (rd_T27 acc (m : Int)).f2, (rd_T27 acc (m : Int)).f3⟩) (okp := fun k => okP P B k ∧ k ≠ g)
    (k27_mkF W _ ⟨(rd_T27 acc (m : Int)).f0, t, (rd_T27 acc (m : Int)).f2, (rd_T27 acc (m : Int)).f3⟩ l9 g9 l2 g2 l3 g3) (fun _ h => h)).1

set_option maxHeartbeats 8000000 in
set_option maxRecDepth 100000 in
theorem put65_c (P : Nat → Prop) (B : Nat) (W : World) (acc : List S27) (v : Value) (x : S27) (A1 : Option Addr) (c1 : Nat) (A2 : Option Addr) (c2 : Nat) (A3 : Option Addr) (c3 : Nat) (hv : Boxed W B 75 v) (hN : Kd.N k27 27 W (B + 1) (okP P B) v acc) (hacc : acc.length ≤ 1000000) (htx : ∀ q ∈ acc, q.f1.length + x.f1.length ≤ 1000000)
    (l1 : x.f1.length ≤ c1) (g1 : Kd.F Kd.string W (fun k => P k ∧ k < B) A1 x.f1.length x.f1) (l2 : x.f2.length ≤ c2) (g2 : Kd.F Kd.string W (fun k => P k ∧ k < B) A2 x.f2.length x.f2) (l3 : x.f3.length ≤ c3) (g3 : Kd.F (Kd.slice 9 Kd.string) W (fun k => P k ∧ k < B) A3 x.f3.length x.f3) :
    Calls Try.prog 65 #[.pointer (some ⟨B, 0, none⟩), .agg #[.bool x.f0, .slice A1 x.f1.length c1, .slice A2 x.f2.length c2, .slice A3 x.f3.length c3]] W fun e w' => e = .returned (.tuple #[]) ∧ ∃ v', Boxed w' B 75 v' ∧ Kd.N k27 27 w' (B + 1) (okP P B) v' (putG acc x) ∧ Below B W w' := by
  have hBlt := blk_lt hv
  have HBW : Aside0 (Below B W (W.alloc (.cells #[.bool x.f0, .slice A1 x.f1.length c1, .slice A2 x.f2.length c2, .slice A3 x.f3.length c3] 27))) := ⟨(Below.refl B W).alloc (by omega) _⟩
  have HSZ : Aside0 (B + 1 ≤ (W.alloc (.cells #[.bool x.f0, .slice A1 x.f1.length c1, .slice A2 x.f2.length c2, .slice A3 x.f3.length c3] 27)).heap.size) := ⟨by simp; omega⟩
  obtain ⟨A, c, rfl⟩ := Kd.N_slice hN
  have hv1 : Boxed (W.alloc (.cells #[.bool x.f0, .slice A1 x.f1.length c1, .slice A2 x.f2.length c2, .slice A3 x.f3.length c3] 27)) B 75 (.slice A acc.length c) := blk_later hv (below_alloc (Below.refl _ _) _)
  have hbc := hv1.cell
  have hbf := hv1.frozen
  have HV := Aside0.mk hv1
  have HN := Aside0.mk (Kd.N_alloc hN (.cells #[.bool x.f0, .slice A1 x.f1.length c1, .slice A2 x.f2.length c2, .slice A3 x.f3.length c3] 27))
  have HG1 := Aside0.mk (Kd.F_alloc g1 (.cells #[.bool x.f0, .slice A1 x.f1.length c1, .slice A2 x.f2.length c2, .slice A3 x.f3.length c3] 27))
  have HG2 := Aside0.mk (Kd.F_alloc g2 (.cells #[.bool x.f0, .slice A1 x.f1.length c1, .slice A2 x.f2.length c2, .slice A3 x.f3.length c3] 27))
  have HG3 := Aside0.mk (Kd.F_alloc g3 (.cells #[.bool x.f0, .slice A1 x.f1.length c1, .slice A2 x.f2.length c2, .slice A3 x.f3.length c3] 27))
  have HL := Aside0.mk (And.intro l1 (And.intro l2 l3))
  have HLA := Aside0.mk hacc
  have HTX := Aside0.mk htx
  clear hv hN hacc htx l1 g1 l2 g2 l3 g3 hv1
  -- what last tells
  obtain ⟨q, hq⟩ : ∃ q : Option Addr, (∃ m g, acc.length = m + 1 ∧ A = some ⟨g, 0, none⟩ ∧ q = some ⟨g, m * 4, none⟩ ∧ (rd_T27 acc (m : Int)).f0 = false) ∨ (q = none ∧ ¬ (acc ≠ [] ∧ (rd_T27 acc ((acc.length - 1 : Nat) : Int)).f0 = false)) := by
    by_cases hp : acc ≠ [] ∧ (rd_T27 acc ((acc.length - 1 : Nat) : Int)).f0 = false
    · have hpos : 0 < acc.length := List.length_pos_iff.2 hp.1
      obtain ⟨g, cap, he, _⟩ := Kd.N_form HN.out hpos
      injection he with he _ _
      exact ⟨_, .inl ⟨acc.length - 1, g, by omega, he, rfl, hp.2⟩⟩
    · exact ⟨none, .inr ⟨rfl, hp⟩⟩
  have HLAST : Aside0 (Calls Try.prog 75 #[.pointer (some ⟨B, 0, none⟩)] (W.alloc (.cells #[.bool x.f0, .slice A1 x.f1.length c1, .slice A2 x.f2.length c2, .slice A3 x.f3.length c3] 27)) fun e w' => e = .returned (.pointer q) ∧ w' = (W.alloc (.cells #[.bool x.f0, .slice A1 x.f1.length c1, .slice A2 x.f2.length c2, .slice A3 x.f3.length c3] 27))) := ⟨by
    rcases hq with ⟨m, g, hm, rfl, rfl, h0⟩ | ⟨rfl, hp⟩
    · obtain ⟨b1, d1, b2, d2, b3, d3, k0, _⟩ := last_cells HN.out hm
      rw [h0] at k0
      exact last75_text _ B g m c (by have := HLA.out; omega) (by rw [← hm]; exact HV.out) k0
    · rcases Nat.eq_zero_or_pos acc.length with hz | hz
      · have := HV.out
        rw [hz] at this
        exact last75_nil _ B A c this
      · obtain ⟨g, cap, he, _⟩ := Kd.N_form HN.out hz
        injection he with he _ _
        subst he
        obtain ⟨m, hm⟩ : ∃ m, acc.length = m + 1 := ⟨acc.length - 1, by omega⟩
        obtain ⟨b1, d1, b2, d2, b3, d3, k0, _⟩ := last_cells HN.out hm
        have hne : acc ≠ [] := List.length_pos_iff.1 hz
        have hf0 : (rd_T27 acc (m : Int)).f0 = true := by
          cases e : (rd_T27 acc (m : Int)).f0 with
          | true => rfl
          | false => exact absurd ⟨hne, by rw [hm]; exact e⟩ hp
        rw [hf0] at k0
        exact last75_conf _ B g m c (by have := HLA.out; omega) (by rw [← hm]; exact HV.out) k0⟩
  have HQ := Aside0.mk hq
  clear hq
  cases hx0 : x.f0 with
  | true =>
    have HPG : Aside0 (putG acc x = acc ++ [⟨true, [], x.f2, x.f3⟩]) := ⟨by unfold putG; rw [if_pos hx0]⟩
    rw [hx0] at hbc hbf HV HN HG1 HG2 HG3 HBW HSZ HLAST
    clear hx0
    go_enter Try.func65, Try.ntmps65
    go_wp2_with (first | (go_at_call 75; (with_reducible refine HLAST.out.mono ?_); rintro e w1 ⟨rfl, rfl⟩))
    repeat (go_quiet (fail); try go_wp2)
    have hp := Go.heap_alloc_new W (.cells #[.bool true, .slice A1 x.f1.length c1, .slice A2 x.f2.length c2, .slice A3 x.f3.length c3] 27)
    have hP0 := Aside0.mk (blk_cell hp 0)
    have hP1 := Aside0.mk (blk_cell hp 1)
    have hP2 := Aside0.mk (blk_cell hp 2)
    have hP3 := Aside0.mk (blk_cell hp 3)
    have HBC := Aside0.mk hbc
    clear hp
    obtain ⟨W4, hW4⟩ : ∃ W4, W4 = (W.alloc (.cells #[.bool true, .slice A1 x.f1.length c1, .slice A2 x.f2.length c2, .slice A3 x.f3.length c3] 27)).drew := ⟨_, rfl⟩
    have HN4 : Aside0 (Kd.N k27 27 (W.alloc (.cells #[.bool true, .slice A1 x.f1.length c1, .slice A2 x.f2.length c2, .slice A3 x.f3.length c3] 27)).drew (B + 1) (okP P B) (.slice A acc.length c) acc) := ⟨Kd.N_drew HN.out⟩
    have HV4 : Aside0 (Boxed (W.alloc (.cells #[.bool true, .slice A1 x.f1.length c1, .slice A2 x.f2.length c2, .slice A3 x.f3.length c3] 27)).drew B 75 (.slice A acc.length c)) := ⟨HV.out⟩
    have HB4 : Aside0 (Below B W (W.alloc (.cells #[.bool true, .slice A1 x.f1.length c1, .slice A2 x.f2.length c2, .slice A3 x.f3.length c3] 27)).drew) := ⟨below_drew HBW.out⟩
    have HF1 : Aside0 (Kd.F Kd.string (W.alloc (.cells #[.bool true, .slice A1 x.f1.length c1, .slice A2 x.f2.length c2, .slice A3 x.f3.length c3] 27)).drew (fun k => P k ∧ k < B) A1 x.f1.length x.f1) := ⟨Kd.F_drew HG1.out⟩
    have HF2 : Aside0 (Kd.F Kd.string (W.alloc (.cells #[.bool true, .slice A1 x.f1.length c1, .slice A2 x.f2.length c2, .slice A3 x.f3.length c3] 27)).drew (fun k => P k ∧ k < B) A2 x.f2.length x.f2) := ⟨Kd.F_drew HG2.out⟩
    have HF3 : Aside0 (Kd.F (Kd.slice 9 Kd.string) (W.alloc (.cells #[.bool true, .slice A1 x.f1.length c1, .slice A2 x.f2.length c2, .slice A3 x.f3.length c3] 27)).drew (fun k => P k ∧ k < B) A3 x.f3.length x.f3) := ⟨Kd.F_drew HG3.out⟩
    have HSZ4 : Aside0 (B + 1 ≤ (W.alloc (.cells #[.bool true, .slice A1 x.f1.length c1, .slice A2 x.f2.length c2, .slice A3 x.f3.length c3] 27)).drew.heap.size) := ⟨HSZ.out⟩
    rw [← hW4] at HN4 HV4 HB4 HF1 HF2 HF3 HSZ4
    refine start_ (n := 15) (S := fun w' => w'.cell? ⟨B, 0, none⟩ = some (.slice A acc.length c) ∧ w'.cell? ⟨W.heap.size, 2, none⟩ = some (.slice A2 x.f2.length c2) ∧ w'.cell? ⟨W.heap.size, 3, none⟩ = some (.slice A3 x.f3.length c3)) (ds := [11, 14]) #[false, false, false, false, false, false, false, false, false, false, false, false, false, false, false] (by kernel_rfl) rfl rfl ⟨HBC.out, hP2.out, hP3.out⟩ (fun hHeld => ?_)
    rw [← hW4] at hHeld ⊢
    clear hW4 hbc hbf
    refine pure_ (i := 0) (N := some 22) (v := ?_) (a' := ?_) #[true, false, false, false, false, false, false, false, false, false, false, false, false, false, false] rfl rfl (by kernel_rfl) (fun _ _ _ h => h) (Or.inl ⟨by rfl, ?_⟩) ?_ ?_
    rotate_left
    · intro w'
      go_simp
      with_reducible rfl
    rotate_left
    · simp only [Act.put, List.setIfInBounds_toArray, List.set_cons_zero, List.set_cons_succ, i64_w, i32_w]
      rfl
    refine pure_ (i := 1) (N := some 23) (v := ?_) (a' := ?_) #[true, true, false, false, false, false, false, false, false, false, false, false, false, false, false] rfl rfl (by kernel_rfl) (fun _ _ _ h => h) (Or.inl ⟨by rfl, ?_⟩) ?_ ?_
    rotate_left
    · intro w'
      go_simp
      with_reducible rfl
    rotate_left
    · simp only [Act.put, List.setIfInBounds_toArray, List.set_cons_zero, List.set_cons_succ, i64_w, i32_w]
      rfl
    refine pure_ (i := 2) (N := some 24) (v := ?_) (a' := ?_) #[true, true, true, false, false, false, false, false, false, false, false, false, false, false, false] rfl rfl (by kernel_rfl) (fun _ _ _ h => h) (Or.inl ⟨by rfl, ?_⟩) ?_ ?_
    rotate_left
    · intro w'
      go_simp
      with_reducible rfl
    rotate_left
    · simp only [Act.put, List.setIfInBounds_toArray, List.set_cons_zero, List.set_cons_succ, i64_w, i32_w]
      rfl
    refine pure_ (i := 3) (N := some 25) (v := ?_) (a' := ?_) #[true, true, true, true, false, false, false, false, false, false, false, false, false, false, false] rfl rfl (by kernel_rfl) (fun _ _ _ h => h) (Or.inl ⟨by rfl, ?_⟩) ?_ ?_
    rotate_left
    · intro w'
      go_simp
      with_reducible rfl
    rotate_left
    · simp only [Act.put, List.setIfInBounds_toArray, List.set_cons_zero, List.set_cons_succ, i64_w, i32_w]
      rfl
    refine pure_ (i := 5) (N := some 27) (v := ?_) (a' := ?_) #[true, true, true, true, false, true, false, false, false, false, false, false, false, false, false] rfl rfl (by kernel_rfl) (fun _ _ _ h => h) (Or.inl ⟨by rfl, ?_⟩) ?_ ?_
    rotate_left
    · intro w'
      go_simp
      with_reducible rfl
    rotate_left
    · simp only [Act.put, List.setIfInBounds_toArray, List.set_cons_zero, List.set_cons_succ, i64_w, i32_w]
      rfl
    refine pure_ (i := 7) (N := some 29) (v := ?_) (a' := ?_) #[true, true, true, true, false, true, false, true, false, false, false, false, false, false, false] rfl rfl (by kernel_rfl) (fun _ _ _ h => h) (Or.inl ⟨by rfl, ?_⟩) ?_ ?_
    rotate_left
    · intro w'
      go_simp
      with_reducible rfl
    rotate_left
    · simp only [Act.put, List.setIfInBounds_toArray, List.set_cons_zero, List.set_cons_succ, i64_w, i32_w]
      rfl
    refine take_ (i := 4) (N := some 26) (v := ?_) (a' := ?_) #[true, true, true, true, true, true, false, true, false, false, false, false, false, false, false] rfl rfl (by kernel_rfl) (fun _ _ _ h => h) (Or.inl ⟨by rfl, ?_⟩) hHeld ?_ ?_
    rotate_left
    · rintro w' ⟨s0, s1, s2⟩
      go_simp
      with_reducible rfl
    rotate_left
    · simp only [Act.put, List.setIfInBounds_toArray, List.set_cons_zero, List.set_cons_succ, i64_w, i32_w]
      rfl
    refine take_ (i := 6) (N := some 28) (v := ?_) (a' := ?_) #[true, true, true, true, true, true, true, true, false, false, false, false, false, false, false] rfl rfl (by kernel_rfl) (fun _ _ _ h => h) (Or.inl ⟨by rfl, ?_⟩) hHeld ?_ ?_
    rotate_left
    · rintro w' ⟨s0, s1, s2⟩
      go_simp
      with_reducible rfl
    rotate_left
    · simp only [Act.put, List.setIfInBounds_toArray, List.set_cons_zero, List.set_cons_succ, i64_w, i32_w]
      rfl
    refine take_ (i := 8) (N := some 30) (v := ?_) (a' := ?_) #[true, true, true, true, true, true, true, true, true, false, false, false, false, false, false] rfl rfl (by kernel_rfl) (fun _ _ _ h => h) (Or.inl ⟨by rfl, ?_⟩) hHeld ?_ ?_
    rotate_left
    · rintro w' ⟨s0, s1, s2⟩
      go_simp
      with_reducible rfl
    rotate_left
    · simp only [Act.put, List.setIfInBounds_toArray, List.set_cons_zero, List.set_cons_succ, i64_w, i32_w]
      rfl
    refine pure_ (i := 9) (N := some 31) (v := ?_) (a' := ?_) #[true, true, true, true, true, true, true, true, true, true, false, false, false, false, false] rfl rfl (by kernel_rfl) (fun _ _ _ h => h) (Or.inl ⟨by rfl, ?_⟩) ?_ ?_
    rotate_left
    · intro w'
      go_simp
      with_reducible rfl
    rotate_left
    · simp only [Act.put, List.setIfInBounds_toArray, List.set_cons_zero, List.set_cons_succ, i64_w, i32_w]
      rfl
    refine one_ (i := 10) (N := some 32) #[true, true, true, true, true, true, true, true, true, true, true, false, false, false, false] rfl rfl (by kernel_rfl) (by decide) (fun K hK => ?_)
    obtain ⟨s0, s1, s2⟩ := hHeld
    refine value_ (w1 := ?_) (v := ?_) (by rfl) rfl ?_ ?_
    rotate_left 2
    · go_simp
      constructor
      · rfl
      · rfl
    refine hK.out _ _ ⟨cell_alloc_ _ s0, cell_alloc_ _ s1, cell_alloc_ _ s2⟩ (fun hHeld => ?_)
    clear hK K
    refine norm_ (a' := ?_) ?_ ?_
    rotate_left
    · show Act.put _ (some 32) _ = _
      simp only [Act.put, List.setIfInBounds_toArray, List.set_cons_zero, List.set_cons_succ, i64_w, i32_w]
      rfl
    refine last_ (i := 11) (N := some 33) #[true, true, true, true, true, true, true, true, true, true, true, true, false, false, false] rfl rfl (by kernel_rfl) (by decide) (fun K hK => ?_)
    refine appP_step _ (by rfl) (.tmp 26) (.tmp 32) rfl B P acc ⟨true, [], x.f2, x.f3⟩ [.bool true, .slice none 0 0, .slice A2 x.f2.length c2, .slice A3 x.f3.length c3] (.slice A acc.length c) rfl ?_ ?_ HN4.out HSZ4.out HLA.out ?_
    · show Value.slice (some ⟨W4.heap.size, 0, none⟩) 1 1 = _; rfl
    · exact k27_mkF W4 _ ⟨true, [], x.f2, x.f3⟩ (Nat.le_refl _) (Kd.F_nil _ _ _) HL.out.2.1 HF2.out HL.out.2.2 HF3.out
    intro v1 w1 hN1 hB1 hg1
    obtain ⟨A9, k9, rfl⟩ := Kd.N_slice hN1
    have hv1 := HV4.out.kept hg1 (Kd.N_ne HN4.out HV4.out (by decide))
    have hc1 := hv1.cell
    have hf1 := hv1.frozen
    have V1 := Aside0.mk hv1
    have N1 := Aside0.mk hN1
    have L1 := Aside0.mk hB1
    clear hv1 hN1 hB1 hg1
    refine hK.out _ _ ?_
    clear hK K
    refine norm_ (a' := ?_) ?_ ?_
    rotate_left
    · show Act.put _ (some 33) _ = _
      simp only [Act.put, List.setIfInBounds_toArray, List.set_cons_zero, List.set_cons_succ, i64_w, i32_w]
      rfl
    refine pure_ (i := 12) (N := some 34) (v := ?_) (a' := ?_) #[true, true, true, true, true, true, true, true, true, true, true, true, true, false, false] rfl rfl (by kernel_rfl) (fun _ _ _ h => h) (Or.inl ⟨by rfl, ?_⟩) ?_ ?_
    rotate_left
    · intro w'
      go_simp
      with_reducible rfl
    rotate_left
    · simp only [Act.put, List.setIfInBounds_toArray, List.set_cons_zero, List.set_cons_succ, i64_w, i32_w]
      rfl
    refine pure_ (i := 13) (N := some 35) (v := ?_) (a' := ?_) #[true, true, true, true, true, true, true, true, true, true, true, true, true, true, false] rfl rfl (by kernel_rfl) (fun _ _ _ h => h) (Or.inl ⟨by rfl, ?_⟩) ?_ ?_
    rotate_left
    · intro w'
      go_simp
      with_reducible rfl
    rotate_left
    · simp only [Act.put, List.setIfInBounds_toArray, List.set_cons_zero, List.set_cons_succ, i64_w, i32_w]
      rfl
    refine last_ (i := 14) (N := none) #[true, true, true, true, true, true, true, true, true, true, true, true, true, true, true] rfl rfl (by kernel_rfl) (by decide) (fun K hK => ?_)
    refine skip_ (w1 := ?_) (by rfl) rfl ?_ ?_
    rotate_left
    · go_simp
      rfl
    refine hK.out _ _ ?_
    clear hK K
    refine done_ (by kernel_rfl) ?_

    go_wp2
    first | go_end0 | (simp only [Exit.inBlock, Exit.then]; refine bodyPost_ret (results_none rfl _ _ _) rfl ?_) | refine bodyPost_ret (results_none rfl _ _ _) rfl ?_ | trace_state
    obtain ⟨y1, y2, y3⟩ := putP_box V1.out N1.out
    rw [List.length_append] at y1 y2 y3
    refine ⟨rfl, _, y1, ?_, (HB4.out.trans (L1.out.mono (by omega))).trans y3⟩
    rw [HPG.out]; exact y2
  | false =>
    rw [hx0] at hbc hbf HV HN HG1 HG2 HG3 HBW HSZ HLAST
    by_cases hx1 : x.f1 = []
    · have HPG : Aside0 (putG acc x = acc) := ⟨by unfold putG; rw [if_neg (by rw [hx0]; decide), if_pos hx1]⟩
      have hl0 : x.f1.length = 0 := by rw [hx1]; rfl
      rw [hl0] at hbc hbf HV HN HG1 HG2 HG3 HBW HSZ HLAST ⊢
      clear hx0 hx1 hl0
      go_enter Try.func65, Try.ntmps65
      go_wp2_with (first | (go_at_call 75; (with_reducible refine HLAST.out.mono ?_); rintro e w1 ⟨rfl, rfl⟩))
      repeat (go_quiet (fail); try go_wp2)
      first | go_end0 | (simp only [Exit.inBlock, Exit.then]; refine bodyPost_ret (results_none rfl _ _ _) rfl ?_) | refine bodyPost_ret (results_none rfl _ _ _) rfl ?_ | trace_state
      exact ⟨rfl, _, HV.out, by rw [HPG.out]; exact HN.out, HBW.out⟩
    · have hl0 : 0 < x.f1.length := List.length_pos_iff.2 hx1
      have e1 : ((x.f1.length : Int) == 0) = false := by rw [beq_eq_false_iff_ne]; omega
      have e2 : (x.f1.length == 0) = false := by rw [beq_eq_false_iff_ne]; omega
      have e3 : ¬ (x.f1.length = 0) := by omega
      by_cases hp : acc ≠ [] ∧ (rd_T27 acc ((acc.length - 1 : Nat) : Int)).f0 = false
      · obtain ⟨m, g, hm, rfl, rfl, h0⟩ : ∃ m g, acc.length = m + 1 ∧ A = some ⟨g, 0, none⟩ ∧ q = some ⟨g, m * 4, none⟩ ∧ (rd_T27 acc (m : Int)).f0 = false := by
          rcases HQ.out with h | ⟨_, h⟩
          · exact h
          · exact absurd hp h
        have HPG : Aside0 (putG acc x = acc.set m ⟨false, (rd_T27 acc (m : Int)).f1 ++ x.f1, (rd_T27 acc (m : Int)).f2, (rd_T27 acc (m : Int)).f3⟩) := ⟨by
          unfold putG; rw [if_neg (by rw [hx0]; decide), if_neg hx1, if_pos hp, show acc.length - 1 = m from by omega]⟩
        have HM := Aside0.mk hm
        have HTM : Aside0 ((rd_T27 acc (m : Int)).f1.length + x.f1.length ≤ 1000000) := ⟨HTX.out _ (by
          have hlt : m < acc.length := by omega
          have e : rd_T27 acc (m : Int) = acc[m] := by simp [rd_T27, List.getD_eq_getElem?_getD, hlt]
          rw [e]; exact List.getElem_mem hlt)⟩
        have H0 := Aside0.mk h0
        clear hx0 hx1 hl0 hp hm h0
        go_enter Try.func65, Try.ntmps65
        go_wp2_with (first | (go_at_call 75; (with_reducible refine HLAST.out.mono ?_); rintro e w1 ⟨rfl, rfl⟩))
        repeat (go_quiet (fail); try go_wp2)
        have hp := Go.heap_alloc_new W (.cells #[.bool false, .slice A1 x.f1.length c1, .slice A2 x.f2.length c2, .slice A3 x.f3.length c3] 27)
        have hP0 := Aside0.mk (blk_cell hp 0)
        have hP1 := Aside0.mk (blk_cell hp 1)
        have hP2 := Aside0.mk (blk_cell hp 2)
        have hP3 := Aside0.mk (blk_cell hp 3)
        have HBC := Aside0.mk hbc
        clear hp
        obtain ⟨W4, hW4⟩ : ∃ W4, W4 = (W.alloc (.cells #[.bool false, .slice A1 x.f1.length c1, .slice A2 x.f2.length c2, .slice A3 x.f3.length c3] 27)).drew := ⟨_, rfl⟩
        have HN4 : Aside0 (Kd.N k27 27 (W.alloc (.cells #[.bool false, .slice A1 x.f1.length c1, .slice A2 x.f2.length c2, .slice A3 x.f3.length c3] 27)).drew (B + 1) (okP P B) (.slice (some ⟨g, 0, none⟩) acc.length c) acc) := ⟨Kd.N_drew HN.out⟩
        have HV4 : Aside0 (Boxed (W.alloc (.cells #[.bool false, .slice A1 x.f1.length c1, .slice A2 x.f2.length c2, .slice A3 x.f3.length c3] 27)).drew B 75 (.slice (some ⟨g, 0, none⟩) acc.length c)) := ⟨HV.out⟩
        have HB4 : Aside0 (Below B W (W.alloc (.cells #[.bool false, .slice A1 x.f1.length c1, .slice A2 x.f2.length c2, .slice A3 x.f3.length c3] 27)).drew) := ⟨below_drew HBW.out⟩
        have HF1 : Aside0 (Kd.F Kd.string (W.alloc (.cells #[.bool false, .slice A1 x.f1.length c1, .slice A2 x.f2.length c2, .slice A3 x.f3.length c3] 27)).drew (fun k => P k ∧ k < B) A1 x.f1.length x.f1) := ⟨Kd.F_drew HG1.out⟩
        have HF2 : Aside0 (Kd.F Kd.string (W.alloc (.cells #[.bool false, .slice A1 x.f1.length c1, .slice A2 x.f2.length c2, .slice A3 x.f3.length c3] 27)).drew (fun k => P k ∧ k < B) A2 x.f2.length x.f2) := ⟨Kd.F_drew HG2.out⟩
        have HF3 : Aside0 (Kd.F (Kd.slice 9 Kd.string) (W.alloc (.cells #[.bool false, .slice A1 x.f1.length c1, .slice A2 x.f2.length c2, .slice A3 x.f3.length c3] 27)).drew (fun k => P k ∧ k < B) A3 x.f3.length x.f3) := ⟨Kd.F_drew HG3.out⟩
        have HSZ4 : Aside0 (B + 1 ≤ (W.alloc (.cells #[.bool false, .slice A1 x.f1.length c1, .slice A2 x.f2.length c2, .slice A3 x.f3.length c3] 27)).drew.heap.size) := ⟨HSZ.out⟩
        obtain ⟨b1, d1, b2, d2, b3, d3, k0, k1, kf, kc, m1, f1, m2, f2, m3, f3⟩ := last_cells HN4.out HM.out
        have K1 := Aside0.mk k1
        have MX := Aside0.mk m1
        have FX := Aside0.mk f1
        clear k0 k1 kf kc m1 f1 m2 f2 m3 f3
        rw [← hW4] at HN4 HV4 HB4 HF1 HF2 HF3 HSZ4 FX
        refine start_ (n := 12) (S := fun w' => w'.cell? ⟨g, m * 4 + 1, none⟩ = some (.slice b1 (rd_T27 acc (m : Int)).f1.length d1) ∧ w'.cell? ⟨W.heap.size, 1, none⟩ = some (.slice A1 x.f1.length c1)) (ds := [7, 8, 11]) #[false, false, false, false, false, false, false, false, false, false, false, false] (by kernel_rfl) rfl rfl ⟨K1.out, hP1.out⟩ (fun hHeld => ?_)
        rw [← hW4] at hHeld ⊢
        clear hW4 hbc hbf
        refine pure_ (i := 0) (N := some 44) (v := ?_) (a' := ?_) #[true, false, false, false, false, false, false, false, false, false, false, false] rfl rfl (by kernel_rfl) (fun _ _ _ h => h) (Or.inl ⟨by rfl, ?_⟩) ?_ ?_
        rotate_left
        · intro w'
          go_simp
          with_reducible rfl
        rotate_left
        · simp only [Act.put, List.setIfInBounds_toArray, List.set_cons_zero, List.set_cons_succ, i64_w, i32_w]
          rfl
        refine pure_ (i := 1) (N := some 45) (v := ?_) (a' := ?_) #[true, true, false, false, false, false, false, false, false, false, false, false] rfl rfl (by kernel_rfl) (fun _ _ _ h => h) (Or.inl ⟨by rfl, ?_⟩) ?_ ?_
        rotate_left
        · intro w'
          go_simp
          with_reducible rfl
        rotate_left
        · simp only [Act.put, List.setIfInBounds_toArray, List.set_cons_zero, List.set_cons_succ, i64_w, i32_w]
          rfl
        refine pure_ (i := 2) (N := some 46) (v := ?_) (a' := ?_) #[true, true, true, false, false, false, false, false, false, false, false, false] rfl rfl (by kernel_rfl) (fun _ _ _ h => h) (Or.inl ⟨by rfl, ?_⟩) ?_ ?_
        rotate_left
        · intro w'
          go_simp
          with_reducible rfl
        rotate_left
        · simp only [Act.put, List.setIfInBounds_toArray, List.set_cons_zero, List.set_cons_succ, i64_w, i32_w]
          rfl
        refine pure_ (i := 3) (N := some 47) (v := ?_) (a' := ?_) #[true, true, true, true, false, false, false, false, false, false, false, false] rfl rfl (by kernel_rfl) (fun _ _ _ h => h) (Or.inl ⟨by rfl, ?_⟩) ?_ ?_
        rotate_left
        · intro w'
          go_simp
          with_reducible rfl
        rotate_left
        · simp only [Act.put, List.setIfInBounds_toArray, List.set_cons_zero, List.set_cons_succ, i64_w, i32_w]
          rfl
        refine pure_ (i := 5) (N := some 49) (v := ?_) (a' := ?_) #[true, true, true, true, false, true, false, false, false, false, false, false] rfl rfl (by kernel_rfl) (fun _ _ _ h => h) (Or.inl ⟨by rfl, ?_⟩) ?_ ?_
        rotate_left
        · intro w'
          go_simp
          with_reducible rfl
        rotate_left
        · simp only [Act.put, List.setIfInBounds_toArray, List.set_cons_zero, List.set_cons_succ, i64_w, i32_w]
          rfl
        refine take_ (i := 4) (N := some 48) (v := ?_) (a' := ?_) #[true, true, true, true, true, true, false, false, false, false, false, false] rfl rfl (by kernel_rfl) (fun _ _ _ h => h) (Or.inl ⟨by rfl, ?_⟩) hHeld ?_ ?_
        rotate_left
        · rintro w' ⟨s0, s1⟩
          go_simp
          with_reducible rfl
        rotate_left
        · simp only [Act.put, List.setIfInBounds_toArray, List.set_cons_zero, List.set_cons_succ, i64_w, i32_w]
          rfl
        refine take_ (i := 6) (N := some 50) (v := ?_) (a' := ?_) #[true, true, true, true, true, true, true, false, false, false, false, false] rfl rfl (by kernel_rfl) (fun _ _ _ h => h) (Or.inl ⟨by rfl, ?_⟩) hHeld ?_ ?_
        rotate_left
        · rintro w' ⟨s0, s1⟩
          go_simp
          with_reducible rfl
        rotate_left
        · simp only [Act.put, List.setIfInBounds_toArray, List.set_cons_zero, List.set_cons_succ, i64_w, i32_w]
          rfl
        refine last_ (i := 7) (N := some 51) #[true, true, true, true, true, true, true, true, false, false, false, false] rfl rfl (by kernel_rfl) (by decide) (fun K hK => ?_)
        refine value_ (w1 := ?_) (v := ?_) (by rfl) rfl ?_ ?_
        rotate_left 2
        · go_simp
          constructor
          · rfl
          · rfl
        refine hK.out _ _ ?_
        clear hK K
        refine norm_ (a' := ?_) ?_ ?_
        rotate_left
        · show Act.put _ (some 51) _ = _
          simp only [Act.put, List.setIfInBounds_toArray, List.set_cons_zero, List.set_cons_succ, i64_w, i32_w]
          rfl
        refine last_ (i := 8) (N := some 52) #[true, true, true, true, true, true, true, true, true, false, false, false] rfl rfl (by kernel_rfl) (by decide) (fun K hK => ?_)
        refine goes_ Try.func76 (by kernel_rfl) rfl #[.slice (some ⟨W4.heap.size, 0, none⟩) 2 2] (by rfl) rfl rfl (by simp only [List.map_toArray, List.map_cons, List.map_nil]; rfl) ?_
        with_reducible refine (concat2_c W4 b1 A1 d1 c1 (rd_T27 acc (m : Int)).f1 x.f1 MX.out (Kd.F_now FX.out) HL.out.1 (Kd.F_now HF1.out) HTM.out).mono ?_
        rintro e w3 ⟨A9, c9, rfl, hm9, hg9, hb3⟩
        have N3 := Aside0.mk (Kd.N_below HN4.out hb3)
        have V3 := Aside0.mk (blk_later HV4.out hb3)
        have L3 := Aside0.mk hb3
        have M9 := Aside0.mk hm9
        have G9 := Aside0.mk hg9
        obtain ⟨b13, d13, b23, d23, b33, d33, k03, k13, kf3, kc3, m13, f13, m23, f23, m33, f33⟩ := last_cells N3.out HM.out
        have HGL : Aside0 (g < W4.heap.size) := ⟨Kd.N_lt HN4.out g (by have := HM.out; simp [Value.ownBlock])⟩
        have HGB : Aside0 (B + 1 ≤ g) := ⟨Kd.N_base HN4.out g (by have := HM.out; simp [Value.ownBlock])⟩
        clear hb3 hm9 hg9
        refine ⟨_, rfl, ?_⟩
        refine hK.out _ _ ?_
        clear hK K
        refine norm_ (a' := ?_) ?_ ?_
        rotate_left
        · show Act.put _ (some 52) _ = _
          simp only [Act.put, List.setIfInBounds_toArray, List.set_cons_zero, List.set_cons_succ, i64_w, i32_w]
          rfl
        refine pure_ (i := 9) (N := some 53) (v := ?_) (a' := ?_) #[true, true, true, true, true, true, true, true, true, true, false, false] rfl rfl (by kernel_rfl) (fun _ _ _ h => h) (Or.inl ⟨by rfl, ?_⟩) ?_ ?_
        rotate_left
        · intro w'
          go_simp
          with_reducible rfl
        rotate_left
        · simp only [Act.put, List.setIfInBounds_toArray, List.set_cons_zero, List.set_cons_succ, i64_w, i32_w]
          rfl
        refine pure_ (i := 10) (N := some 54) (v := ?_) (a' := ?_) #[true, true, true, true, true, true, true, true, true, true, true, false] rfl rfl (by kernel_rfl) (fun _ _ _ h => h) (Or.inl ⟨by rfl, ?_⟩) ?_ ?_
        rotate_left
        · intro w'
          go_simp
          with_reducible rfl
        rotate_left
        · simp only [Act.put, List.setIfInBounds_toArray, List.set_cons_zero, List.set_cons_succ, i64_w, i32_w]
          rfl
        refine last_ (i := 11) (N := none) #[true, true, true, true, true, true, true, true, true, true, true, true] rfl rfl (by kernel_rfl) (by decide) (fun K hK => ?_)
        refine skip_ (w1 := ?_) (by rfl) rfl ?_ ?_
        rotate_left
        · go_simp
          rfl
        refine hK.out _ _ ?_
        clear hK K
        refine done_ (by kernel_rfl) ?_

        go_wp2
        first | go_end0 | (simp only [Exit.inBlock, Exit.then]; refine bodyPost_ret (results_none rfl _ _ _) rfl ?_) | refine bodyPost_ret (results_none rfl _ _ _) rfl ?_ | trace_state
        have h3 := last_put N3.out HM.out kc3 M9.out (Kd.F_mono G9.out (fun k hk => ⟨.inr (by have := HSZ4.out; omega), fun e => by have := HGL.out; omega⟩)) m23 f23 m33 f33
        rw [H0.out] at h3
        simp only [List.length_append] at h3
        rw [HPG.out]
        refine ⟨rfl, _, (Below.heap_setCell _ ⟨g, m * 4 + 1, none⟩ _ B (fun e => by have := HGB.out; have : B = g := e; omega)).trans V3.out, h3, (HB4.out.trans (L3.out.mono (by have := HSZ4.out; omega))).trans ((Below.refl _ _).setCell (p := ⟨g, m * 4 + 1, none⟩) (by show B ≤ g; have := HGB.out; omega) _)⟩
      · have hq0 : q = none := by
          rcases HQ.out with ⟨m, g, hm, h1, h2, h3⟩ | h
          · exact absurd ⟨by intro e; rw [e] at hm; simp at hm, by rw [hm]; exact h3⟩ hp
          · exact h.1
        subst hq0
        have HPG : Aside0 (putG acc x = acc ++ [⟨false, x.f1, [], []⟩]) := ⟨by
          unfold putG; rw [if_neg (by rw [hx0]; decide), if_neg hx1, if_neg hp]⟩
        clear hx0 hx1 hl0 hp
        go_enter Try.func65, Try.ntmps65
        go_wp2_with (first | (go_at_call 75; (with_reducible refine HLAST.out.mono ?_); rintro e w1 ⟨rfl, rfl⟩))
        repeat (go_quiet (fail); try go_wp2)
        have hp := Go.heap_alloc_new W (.cells #[.bool false, .slice A1 x.f1.length c1, .slice A2 x.f2.length c2, .slice A3 x.f3.length c3] 27)
        have hP0 := Aside0.mk (blk_cell hp 0)
        have hP1 := Aside0.mk (blk_cell hp 1)
        have hP2 := Aside0.mk (blk_cell hp 2)
        have hP3 := Aside0.mk (blk_cell hp 3)
        have HBC := Aside0.mk hbc
        clear hp
        obtain ⟨W4, hW4⟩ : ∃ W4, W4 = (W.alloc (.cells #[.bool false, .slice A1 x.f1.length c1, .slice A2 x.f2.length c2, .slice A3 x.f3.length c3] 27)).drew := ⟨_, rfl⟩
        have HN4 : Aside0 (Kd.N k27 27 (W.alloc (.cells #[.bool false, .slice A1 x.f1.length c1, .slice A2 x.f2.length c2, .slice A3 x.f3.length c3] 27)).drew (B + 1) (okP P B) (.slice A acc.length c) acc) := ⟨Kd.N_drew HN.out⟩
        have HV4 : Aside0 (Boxed (W.alloc (.cells #[.bool false, .slice A1 x.f1.length c1, .slice A2 x.f2.length c2, .slice A3 x.f3.length c3] 27)).drew B 75 (.slice A acc.length c)) := ⟨HV.out⟩
        have HB4 : Aside0 (Below B W (W.alloc (.cells #[.bool false, .slice A1 x.f1.length c1, .slice A2 x.f2.length c2, .slice A3 x.f3.length c3] 27)).drew) := ⟨below_drew HBW.out⟩
        have HF1 : Aside0 (Kd.F Kd.string (W.alloc (.cells #[.bool false, .slice A1 x.f1.length c1, .slice A2 x.f2.length c2, .slice A3 x.f3.length c3] 27)).drew (fun k => P k ∧ k < B) A1 x.f1.length x.f1) := ⟨Kd.F_drew HG1.out⟩
        have HF2 : Aside0 (Kd.F Kd.string (W.alloc (.cells #[.bool false, .slice A1 x.f1.length c1, .slice A2 x.f2.length c2, .slice A3 x.f3.length c3] 27)).drew (fun k => P k ∧ k < B) A2 x.f2.length x.f2) := ⟨Kd.F_drew HG2.out⟩
        have HF3 : Aside0 (Kd.F (Kd.slice 9 Kd.string) (W.alloc (.cells #[.bool false, .slice A1 x.f1.length c1, .slice A2 x.f2.length c2, .slice A3 x.f3.length c3] 27)).drew (fun k => P k ∧ k < B) A3 x.f3.length x.f3) := ⟨Kd.F_drew HG3.out⟩
        have HSZ4 : Aside0 (B + 1 ≤ (W.alloc (.cells #[.bool false, .slice A1 x.f1.length c1, .slice A2 x.f2.length c2, .slice A3 x.f3.length c3] 27)).drew.heap.size) := ⟨HSZ.out⟩
        rw [← hW4] at HN4 HV4 HB4 HF1 HF2 HF3 HSZ4
        refine start_ (n := 13) (S := fun w' => w'.cell? ⟨B, 0, none⟩ = some (.slice A acc.length c) ∧ w'.cell? ⟨W.heap.size, 1, none⟩ = some (.slice A1 x.f1.length c1)) (ds := [9, 12]) #[false, false, false, false, false, false, false, false, false, false, false, false, false] (by kernel_rfl) rfl rfl ⟨HBC.out, hP1.out⟩ (fun hHeld => ?_)
        rw [← hW4] at hHeld ⊢
        clear hW4 hbc hbf
        refine pure_ (i := 0) (N := some 7) (v := ?_) (a' := ?_) #[true, false, false, false, false, false, false, false, false, false, false, false, false] rfl rfl (by kernel_rfl) (fun _ _ _ h => h) (Or.inl ⟨by rfl, ?_⟩) ?_ ?_
        rotate_left
        · intro w'
          go_simp
          with_reducible rfl
        rotate_left
        · simp only [Act.put, List.setIfInBounds_toArray, List.set_cons_zero, List.set_cons_succ, i64_w, i32_w]
          rfl
        refine pure_ (i := 1) (N := some 8) (v := ?_) (a' := ?_) #[true, true, false, false, false, false, false, false, false, false, false, false, false] rfl rfl (by kernel_rfl) (fun _ _ _ h => h) (Or.inl ⟨by rfl, ?_⟩) ?_ ?_
        rotate_left
        · intro w'
          go_simp
          with_reducible rfl
        rotate_left
        · simp only [Act.put, List.setIfInBounds_toArray, List.set_cons_zero, List.set_cons_succ, i64_w, i32_w]
          rfl
        refine pure_ (i := 2) (N := some 9) (v := ?_) (a' := ?_) #[true, true, true, false, false, false, false, false, false, false, false, false, false] rfl rfl (by kernel_rfl) (fun _ _ _ h => h) (Or.inl ⟨by rfl, ?_⟩) ?_ ?_
        rotate_left
        · intro w'
          go_simp
          with_reducible rfl
        rotate_left
        · simp only [Act.put, List.setIfInBounds_toArray, List.set_cons_zero, List.set_cons_succ, i64_w, i32_w]
          rfl
        refine pure_ (i := 3) (N := some 10) (v := ?_) (a' := ?_) #[true, true, true, true, false, false, false, false, false, false, false, false, false] rfl rfl (by kernel_rfl) (fun _ _ _ h => h) (Or.inl ⟨by rfl, ?_⟩) ?_ ?_
        rotate_left
        · intro w'
          go_simp
          with_reducible rfl
        rotate_left
        · simp only [Act.put, List.setIfInBounds_toArray, List.set_cons_zero, List.set_cons_succ, i64_w, i32_w]
          rfl
        refine pure_ (i := 5) (N := some 12) (v := ?_) (a' := ?_) #[true, true, true, true, false, true, false, false, false, false, false, false, false] rfl rfl (by kernel_rfl) (fun _ _ _ h => h) (Or.inl ⟨by rfl, ?_⟩) ?_ ?_
        rotate_left
        · intro w'
          go_simp
          with_reducible rfl
        rotate_left
        · simp only [Act.put, List.setIfInBounds_toArray, List.set_cons_zero, List.set_cons_succ, i64_w, i32_w]
          rfl
        refine take_ (i := 4) (N := some 11) (v := ?_) (a' := ?_) #[true, true, true, true, true, true, false, false, false, false, false, false, false] rfl rfl (by kernel_rfl) (fun _ _ _ h => h) (Or.inl ⟨by rfl, ?_⟩) hHeld ?_ ?_
        rotate_left
        · rintro w' ⟨s0, s1⟩
          go_simp
          with_reducible rfl
        rotate_left
        · simp only [Act.put, List.setIfInBounds_toArray, List.set_cons_zero, List.set_cons_succ, i64_w, i32_w]
          rfl
        refine take_ (i := 6) (N := some 13) (v := ?_) (a' := ?_) #[true, true, true, true, true, true, true, false, false, false, false, false, false] rfl rfl (by kernel_rfl) (fun _ _ _ h => h) (Or.inl ⟨by rfl, ?_⟩) hHeld ?_ ?_
        rotate_left
        · rintro w' ⟨s0, s1⟩
          go_simp
          with_reducible rfl
        rotate_left
        · simp only [Act.put, List.setIfInBounds_toArray, List.set_cons_zero, List.set_cons_succ, i64_w, i32_w]
          rfl
        refine pure_ (i := 7) (N := some 14) (v := ?_) (a' := ?_) #[true, true, true, true, true, true, true, true, false, false, false, false, false] rfl rfl (by kernel_rfl) (fun _ _ _ h => h) (Or.inl ⟨by rfl, ?_⟩) ?_ ?_
        rotate_left
        · intro w'
          go_simp
          with_reducible rfl
        rotate_left
        · simp only [Act.put, List.setIfInBounds_toArray, List.set_cons_zero, List.set_cons_succ, i64_w, i32_w]
          rfl
        refine one_ (i := 8) (N := some 15) #[true, true, true, true, true, true, true, true, true, false, false, false, false] rfl rfl (by kernel_rfl) (by decide) (fun K hK => ?_)
        obtain ⟨s0, s1⟩ := hHeld
        refine value_ (w1 := ?_) (v := ?_) (by rfl) rfl ?_ ?_
        rotate_left 2
        · go_simp
          constructor
          · rfl
          · rfl
        refine hK.out _ _ ⟨cell_alloc_ _ s0, cell_alloc_ _ s1⟩ (fun hHeld => ?_)
        clear hK K
        refine norm_ (a' := ?_) ?_ ?_
        rotate_left
        · show Act.put _ (some 15) _ = _
          simp only [Act.put, List.setIfInBounds_toArray, List.set_cons_zero, List.set_cons_succ, i64_w, i32_w]
          rfl
        refine last_ (i := 9) (N := some 16) #[true, true, true, true, true, true, true, true, true, true, false, false, false] rfl rfl (by kernel_rfl) (by decide) (fun K hK => ?_)
        refine appP_step _ (by rfl) (.tmp 11) (.tmp 15) rfl B P acc ⟨false, x.f1, [], []⟩ [.bool false, .slice A1 x.f1.length c1, .slice none 0 0, .slice none 0 0] (.slice A acc.length c) rfl ?_ ?_ HN4.out HSZ4.out HLA.out ?_
        · show Value.slice (some ⟨W4.heap.size, 0, none⟩) 1 1 = _; rfl
        · exact k27_mkF W4 _ ⟨false, x.f1, [], []⟩ HL.out.1 HF1.out (Nat.le_refl _) (Kd.F_nil _ _ _) (Nat.le_refl _) (Kd.F_nil _ _ _)
        intro v1 w1 hN1 hB1 hg1
        obtain ⟨A9, k9, rfl⟩ := Kd.N_slice hN1
        have hv1 := HV4.out.kept hg1 (Kd.N_ne HN4.out HV4.out (by decide))
        have hc1 := hv1.cell
        have hf1 := hv1.frozen
        have V1 := Aside0.mk hv1
        have N1 := Aside0.mk hN1
        have L1 := Aside0.mk hB1
        clear hv1 hN1 hB1 hg1
        refine hK.out _ _ ?_
        clear hK K
        refine norm_ (a' := ?_) ?_ ?_
        rotate_left
        · show Act.put _ (some 16) _ = _
          simp only [Act.put, List.setIfInBounds_toArray, List.set_cons_zero, List.set_cons_succ, i64_w, i32_w]
          rfl
        refine pure_ (i := 10) (N := some 17) (v := ?_) (a' := ?_) #[true, true, true, true, true, true, true, true, true, true, true, false, false] rfl rfl (by kernel_rfl) (fun _ _ _ h => h) (Or.inl ⟨by rfl, ?_⟩) ?_ ?_
        rotate_left
        · intro w'
          go_simp
          with_reducible rfl
        rotate_left
        · simp only [Act.put, List.setIfInBounds_toArray, List.set_cons_zero, List.set_cons_succ, i64_w, i32_w]
          rfl
        refine pure_ (i := 11) (N := some 18) (v := ?_) (a' := ?_) #[true, true, true, true, true, true, true, true, true, true, true, true, false] rfl rfl (by kernel_rfl) (fun _ _ _ h => h) (Or.inl ⟨by rfl, ?_⟩) ?_ ?_
        rotate_left
        · intro w'
          go_simp
          with_reducible rfl
        rotate_left
        · simp only [Act.put, List.setIfInBounds_toArray, List.set_cons_zero, List.set_cons_succ, i64_w, i32_w]
          rfl
        refine last_ (i := 12) (N := none) #[true, true, true, true, true, true, true, true, true, true, true, true, true] rfl rfl (by kernel_rfl) (by decide) (fun K hK => ?_)
        refine skip_ (w1 := ?_) (by rfl) rfl ?_ ?_
        rotate_left
        · go_simp
          rfl
        refine hK.out _ _ ?_
        clear hK K
        refine done_ (by kernel_rfl) ?_

        go_wp2
        first | go_end0 | (simp only [Exit.inBlock, Exit.then]; refine bodyPost_ret (results_none rfl _ _ _) rfl ?_) | refine bodyPost_ret (results_none rfl _ _ _) rfl ?_ | trace_state
        obtain ⟨y1, y2, y3⟩ := putP_box V1.out N1.out
        rw [List.length_append] at y1 y2 y3
        refine ⟨rfl, _, y1, ?_, (HB4.out.trans (L1.out.mono (by omega))).trans y3⟩
        rw [HPG.out]; exact y2
end Go.Proofs.Ytiaoppikdgoieaa.M
namespace Go.Proofs.Ytiaoppikdgoieaa.M
open Go.RowKit Go.Proofs Go.Proofs.YtiaoppikdgoieaaW.PrintWords Go.Proofs.YtiaoppikdgoieaaW.PrintLast Go.Proofs.YtiaoppikdgoieaaW.PrintMore Go.Proofs.Ytiaoppikdgoieaa.Hand
attribute [local go_sem] Oper.semAt_some
set_option linter.unusedVariables false
set_option linter.unusedSimpArgs false

def normG (l : List S27) : List S27 := l.foldl putG []
theorem normG_snoc (l : List S27) (i : Nat) (x : S27) (h : l[i]? = some x) : normG (l.take (i + 1)) = putG (normG (l.take i)) x := by
  unfold normG
  rw [take_snoc l i x h, List.foldl_append]; rfl
theorem putG_len (acc : List S27) (x : S27) : (putG acc x).length ≤ acc.length + 1 := by
  unfold putG
  split
  · simp
  · split
    · omega
    · split <;> simp
theorem rd_T27_mem {acc : List S27} (h : acc ≠ []) : rd_T27 acc ((acc.length - 1 : Nat) : Int) ∈ acc := by
  have hp : 0 < acc.length := List.length_pos_iff.2 h
  have hlt : acc.length - 1 < acc.length := by omega
  have e : rd_T27 acc ((acc.length - 1 : Nat) : Int) = acc[acc.length - 1] := by simp [rd_T27, List.getD_eq_getElem?_getD, hlt]
  rw [e]; exact List.getElem_mem hlt
theorem putG_text {acc : List S27} {x : S27} {M : Nat} (h : ∀ q ∈ acc, q.f1.length ≤ M) : ∀ q ∈ putG acc x, q.f1.length ≤ M + x.f1.length := by
  intro q hq
  unfold putG at hq
  split at hq
  · rcases List.mem_append.1 hq with hq | hq
    · have := h q hq; omega
    · rw [List.mem_singleton.1 hq]; simp
  · split at hq
    · have := h q hq; omega
    · split at hq
      · next hc =>
        rcases List.mem_or_eq_of_mem_set hq with hq | hq
        · have := h q hq; omega
        · rw [hq]
          have := h _ (rd_T27_mem hc.1)
          simp only [List.length_append]; omega
      · rcases List.mem_append.1 hq with hq | hq
        · have := h q hq; omega
        · rw [List.mem_singleton.1 hq]; simp
def textsN (l : List S27) : Nat := (l.map (fun p => p.f1.length)).sum
theorem textsN_snoc (l : List S27) (i : Nat) (x : S27) (h : l[i]? = some x) : textsN (l.take (i + 1)) = textsN (l.take i) + x.f1.length := by
  unfold textsN
  rw [take_snoc l i x h]; simp
theorem textsN_pre (l : List S27) (i : Nat) : textsN (l.take i) ≤ textsN l := by
  have e : textsN l = textsN (l.take i) + textsN (l.drop i) := by
    unfold textsN
    rw [← List.sum_append, ← List.map_append, List.take_append_drop]
  omega
/-- A piece, of a list that is told with what it leads to. -/
theorem F_piece {W : World} {ok : Nat → Prop} {A : Option Addr} {n : Nat} {xs : List S27} (h : Kd.F k27 W ok A n xs) (i : Nat) (x : S27) (hx : xs[i]? = some x) :
    ∃ ad A1 c1 A2 c2 A3 c3, A = some ad ∧ W.cell? (ad.add (i * 4)) = some (.bool x.f0) ∧ W.cell? ⟨(ad.add (i * 4)).block, (ad.add (i * 4)).off + 1, none⟩ = some (.slice A1 x.f1.length c1) ∧ W.cell? ⟨(ad.add (i * 4)).block, (ad.add (i * 4)).off + 2, none⟩ = some (.slice A2 x.f2.length c2) ∧ W.cell? ⟨(ad.add (i * 4)).block, (ad.add (i * 4)).off + 3, none⟩ = some (.slice A3 x.f3.length c3) ∧
      x.f1.length ≤ c1 ∧ Kd.F Kd.string W ok A1 x.f1.length x.f1 ∧ x.f2.length ≤ c2 ∧ Kd.F Kd.string W ok A2 x.f2.length x.f2 ∧ x.f3.length ≤ c3 ∧ Kd.F (Kd.slice 9 Kd.string) W ok A3 x.f3.length x.f3 := by
  have hi : i < xs.length := (List.getElem?_eq_some_iff.1 hx).1
  obtain ⟨ad, c, e, _, hK, hc0, _⟩ := Kd.F_get h z27 (i : Int) (by omega) (by have := Kd.F_len h; omega)
  have hc : ∀ j u, c[j]? = some u → W.cell? (ad.add (i * 4 + j)) = some u := hc0
  rw [Int.toNat_natCast, List.getD_eq_getElem?_getD, hx] at hK
  obtain ⟨A1, c1, A2, c2, A3, c3, rfl, l1, g1, l2, g2, l3, g3⟩ := k27_openF hK
  exact ⟨ad, A1, c1, A2, c2, A3, c3, e, hc 0 _ rfl, by rw [← add_field _ _ 1 (by omega)]; exact hc 1 _ rfl, by rw [← add_field _ _ 2 (by omega)]; exact hc 2 _ rfl, by rw [← add_field _ _ 3 (by omega)]; exact hc 3 _ rfl, l1, g1, l2, g2, l3, g3⟩

set_option maxHeartbeats 4000000 in
set_option maxRecDepth 100000 in
theorem each65_c (w : World) (P : Nat → Prop) (A0 : Option Addr) (c0 : Nat) (l0 : List S27) (hf0 : Kd.F k27 w (fun k => P k ∧ k < w.heap.size) A0 l0.length l0) (W : World) (hB0 : Below w.heap.size w W) (hv0 : Boxed W w.heap.size 75 (.slice none 0 0)) (hlen : l0.length ≤ 1000000) (htx : textsN l0 ≤ 1000000) :
    Calls Try.prog 64 #[.slice A0 l0.length c0, .func (.func 65) #[.pointer (some ⟨w.heap.size, 0, none⟩)] #[]] W fun e w' => e = .returned (.tuple #[]) ∧ ∃ v', Boxed w' w.heap.size 75 v' ∧ Kd.N k27 27 w' (w.heap.size + 1) (okP P w.heap.size) v' (normG l0) ∧ Below w.heap.size w w' := by
  have F0 := Aside0.mk hf0
  have HV0 := Aside0.mk hv0
  have HB0 := Aside0.mk hB0
  have HL := Aside0.mk hlen
  have HTX := Aside0.mk htx
  clear hf0 hv0 hB0 hlen htx
  go_enter Try.func64, Try.ntmps64
  go_wp2
  go_loopg [8] l0.length (fun kq v8 wr => ∃ (i : Nat) (v : Value), v8 = .int .i64 (i : Int) ∧ Aside0 (i ≤ l0.length ∧ kq = l0.length - i) ∧ Aside0 (Boxed wr w.heap.size 75 v) ∧ Aside0 (Kd.N k27 27 wr (w.heap.size + 1) (okP P w.heap.size) v (normG (l0.take i))) ∧ Aside0 (Below w.heap.size w wr) ∧ Aside0 ((normG (l0.take i)).length ≤ i ∧ ∀ q ∈ normG (l0.take i), q.f1.length ≤ textsN (l0.take i)))
  case atStart => exact ⟨0, _, rfl, ⟨Nat.zero_le _, rfl⟩, HV0, ⟨Kd.N_nil _ _ _ _ _⟩, HB0, ⟨by simp [normG]⟩⟩
  case round =>
    clear HV0 HB0
    obtain ⟨i, v, rfl, HI, HV, HN, HB, HQ⟩ := hrel
    by_cases c4 : i < l0.length
    · have c4b0 : decide ((i : Int) < (l0.length : Int)) = true := decide_eq_true (by omega)
      have c4b1 : decide (i < l0.length) = true := decide_eq_true c4
      obtain ⟨z, g0⟩ : ∃ z, l0[i]? = some z := ⟨_, List.getElem?_eq_getElem c4⟩
      obtain ⟨ad, A1, c1, A2, c2, A3, c3, rfl, hx0, hx1, hx2, hx3, hl1, hf1, hl2, hf2, hl3, hf3⟩ := F_piece (Kd.F_below F0.out HB.out) i z g0
      have HSN := Aside0.mk (normG_snoc l0 i z g0)
      have HTN := Aside0.mk (textsN_snoc l0 i z g0)
      have HTP := Aside0.mk (textsN_pre l0 (i + 1))
      have X1 := Aside0.mk hf1
      have X2 := Aside0.mk hf2
      have X3 := Aside0.mk hf3
      have LL := Aside0.mk (And.intro hl1 (And.intro hl2 hl3))
      have HW2 : Aside0 (wrap64 ((i : Int) + 1) = ((i + 1 : Nat) : Int)) := ⟨by have := HL.out; unfold wrap64; omega⟩
      clear hf1 hf2 hf3 hl1 hl2 hl3 g0
      go_wp2_with (go_at_call 65; (with_reducible refine (put65_c P w.heap.size _ (normG (l0.take i)) v z A1 c1 A2 c2 A3 c3 ?hv ?hN ?ha ?ht LL.out.1 ?h1 LL.out.2.1 ?h2 LL.out.2.2 ?h3).mono ?_); (case hv => exact blk_later HV.out (below_alloc (Below.refl _ _) _)); (case hN => exact Kd.N_alloc HN.out _); (case ha => have := HQ.out.1; have := HL.out; omega); (case ht => intro q hq; have := HQ.out.2 q hq; have h1 := HTP.out; have h2 := HTX.out; rw [HTN.out] at h1; omega); (case h1 => exact Kd.F_alloc X1.out _); (case h2 => exact Kd.F_alloc X2.out _); (case h3 => exact Kd.F_alloc X3.out _); rintro e w' ⟨rfl, v', hv2, hN2, hb2⟩; rw [← HSN.out] at hN2; have n1 := Aside0.mk hv2; have n2 := Aside0.mk hN2; have n3 := Aside0.mk ((below_alloc HB.out _).trans hb2); clear hv2 hN2 hb2)
      go_roundg (l0.length - (i + 1))
      case measure => have := HI.out; omega
      case rel => exact ⟨i + 1, v', by first | rfl | (simp only [i64_w]; rw [HW2.out]) | (rw [HW2.out]), ⟨by omega, rfl⟩, n1, n2, n3, ⟨by rw [HSN.out]; have := putG_len (normG (l0.take i)) z; have := HQ.out.1; omega, by rw [HSN.out, HTN.out]; exact putG_text HQ.out.2⟩⟩
    · have c4b0 : decide ((i : Int) < (l0.length : Int)) = false := decide_eq_false (by omega)
      have c4b1 : decide (i < l0.length) = false := decide_eq_false c4
      have HT := Aside0.mk (List.take_of_length_le (l := l0) (i := i) (by omega))
      rw [HT.out] at HN
      clear c4
      go_wp2
      first | go_end0 | (simp only [Exit.inBlock, Exit.then]; refine bodyPost_ret (results_none rfl _ _ _) rfl ?_) | refine bodyPost_ret (results_none rfl _ _ _) rfl ?_ | trace_state
      exact ⟨rfl, v, HV.out, HN.out, HB.out⟩

def pick_Normal.f (k : Nat) (l0 : List S27) : Option (List S27) := if l0.length ≤ 1000000 ∧ textsN l0 ≤ 1000000 then some (normG l0) else none
theorem pick_Normal.mono : ∀ a0 k, LeO (pick_Normal.f k a0) (pick_Normal.f (k + 1) a0) := fun _ _ => LeO.refl _
set_option maxHeartbeats 1000000 in
set_option maxRecDepth 100000 in
theorem pick_Normal.calls (k : Nat) (P0_ : Nat → Prop) (A0 : Option Addr) (c0 : Nat) (l0 : List S27) (r : List S27) (w : World) (hs0 : Kd.V k27 27 w w.heap.size (fun k_ => P0_ k_) (.slice A0 l0.length c0) l0) (h : pick_Normal.f k l0 = some r) :
    Calls Try.prog 40 #[.slice A0 l0.length c0] w fun e w' => ∃ v0_ : Value, e = .returned (v0_) ∧ Kd.N k27 27 w' w.heap.size (fun k_ => (P0_ k_ ∨ w.heap.size ≤ k_)) v0_ r ∧ Below w.heap.size w w' := by
  unfold pick_Normal.f at h
  by_cases hb : l0.length ≤ 1000000 ∧ textsN l0 ≤ 1000000
  · rw [if_pos hb] at h
    obtain rfl := Option.some.inj h
    have HEC := Aside0.mk (each65_c w P0_ A0 c0 l0 (Kd.F_bound (Kd.V_at hs0).2.2) (w.alloc (.cells #[.slice none 0 0] 75)) (below_alloc (Below.refl _ _) _) (Go.heap_alloc_new w _) hb.1 hb.2)
    clear hs0 hb h
    go_enter Try.func40, Try.ntmps40
    go_wp2_with (go_at_call 64; (with_reducible refine HEC.out.mono ?_); rintro e w' ⟨rfl, v, hv, hN, hb⟩; have hvc := hv.cell; have HN := Aside0.mk hN; have HB := Aside0.mk hb; clear hv hN hb)
    go_ret
    exact ⟨v, rfl, Kd.N_mono (Kd.N_lower HN.out (by omega)) (fun k hk => by rcases hk with hk | hk; exact .inl hk.1; exact .inr (by omega)), HB.out⟩
  · rw [if_neg hb] at h
    exact absurd h (by simp)
end Go.Proofs.Ytiaoppikdgoieaa.M
