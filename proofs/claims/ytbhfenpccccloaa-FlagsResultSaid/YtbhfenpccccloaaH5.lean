/- flags.bracket: that the machine's call does what bracketG says. -/
import Derived.Test.YtbhfenpccccloaaH4
namespace Go.Proofs.Ytbhfenpccccloaa.M
open Go.RowKit Go.Proofs Go.Proofs.Ytbhfenpccccloaa.Hand Go.Proofs.YtbhfenpccccloaaW.PrintWords Go.Proofs.YtbhfenpccccloaaW.PrintLast Go.Proofs.YtbhfenpccccloaaW.PrintMore
attribute [local go_sem] Oper.semAt_some
set_option linter.unusedVariables false
set_option linter.unusedSimpArgs false

theorem br1_len (l1 : List ByteArray) : (br1 l1).length = 1 + l1.length := by rw [br1, listB_len]; rfl
theorem br2_len (a0 : Int) (l1 l2 : List ByteArray) : (br2 a0 l1 l2).length ≤ 2 + l1.length + l2.length := by
  unfold br2; split
  · rw [listB_len, List.length_append, br1_len]; simp; omega
  · rw [br1_len]; omega
theorem br3_len (a0 : Int) (l1 l2 l3 : List ByteArray) : (br3 a0 l1 l2 l3).length ≤ 3 + l1.length + l2.length + l3.length := by
  have := br2_len a0 l1 l2
  rw [br3, listB_len, List.length_append]; simp; omega
theorem snoc_sz (o : List ByteArray) (x : ByteArray) (M : Nat) (h : ∀ s ∈ o, s.size ≤ M) (hx : x.size ≤ M) : ∀ s ∈ o ++ [x], s.size ≤ M := fun s hs => (List.mem_append.1 hs).elim (h s) (fun h => by rw [List.mem_singleton.1 h]; exact hx)
theorem sz_up {o : List ByteArray} {M M' : Nat} (h : ∀ s ∈ o, s.size ≤ M) (hm : M ≤ M') : ∀ s ∈ o, s.size ≤ M' := fun s hs => Nat.le_trans (h s hs) hm
theorem br1_sz (l1 : List ByteArray) (h1 : okL l1) : ∀ s ∈ br1 l1, s.size ≤ 1001 :=
  listB_sz _ _ _ 1000 (snoc_sz _ _ _ (fun s hs => by cases hs) (markB_sz _ _ _ (by decide) (by decide))) h1.2
theorem br2_sz (a0 : Int) (l1 l2 : List ByteArray) (h1 : okL l1) (h2 : okL l2) : ∀ s ∈ br2 a0 l1 l2, s.size ≤ 1002 := by
  unfold br2; split
  · exact listB_sz _ _ _ 1001 (snoc_sz _ _ _ (br1_sz l1 h1) (Nat.le_trans (markB_sz _ _ _ (by decide) (by decide)) (by omega))) (sz_up h2.2 (by omega))
  · exact sz_up (br1_sz l1 h1) (by omega)
theorem br3_sz (a0 : Int) (l1 l2 l3 : List ByteArray) (h1 : okL l1) (h2 : okL l2) (h3 : okL l3) : ∀ s ∈ br3 a0 l1 l2 l3, s.size ≤ 1003 :=
  listB_sz _ _ _ 1002 (snoc_sz _ _ _ (br2_sz a0 l1 l2 h1 h2) (Nat.le_trans (markB_sz _ _ _ (by decide) (by decide)) (by omega))) (sz_up h3.2 (by omega))
theorem app_sz {o l : List ByteArray} {M : Nat} (h1 : ∀ s ∈ o, s.size ≤ M) (h2 : ∀ s ∈ l, s.size ≤ M) : ∀ s ∈ o ++ l, s.size ≤ M := fun s hs => (List.mem_append.1 hs).elim (h1 s) (h2 s)
theorem openG_pos (l : List ByteArray) (h : openG l = true) : 0 < l.length := by
  cases l with
  | nil => simp [openG] at h
  | cons _ _ => simp

theorem okL_sz {l : List ByteArray} (h : okL l) : ∀ s ∈ l, s.size ≤ 1000 := h.2
theorem br23_sz (l1 l2 : List ByteArray) (h1 : okL l1) (h2 : okL l2) : ∀ s ∈ listB (br1 l1 ++ [markB (openG l1) oldM oldW]) l2 (openG l2), s.size ≤ 1002 := br2_sz 3 l1 l2 h1 h2

theorem nil_sz (M : Nat) : ∀ s ∈ ([] : List ByteArray), s.size ≤ M := fun s hs => by cases hs
theorem step_sz (o l : List ByteArray) (b : Bool) (s t : ByteArray) (h : okL l) (ho : ∀ x ∈ o, x.size ≤ 2000) (hs : s.size ≤ 100) (ht : t.size ≤ 100) : ∀ x ∈ (o ++ [markB b s t]) ++ l, x.size ≤ 1000000 :=
  app_sz (snoc_sz _ _ _ (sz_up ho (by omega)) (Nat.le_trans (markB_sz _ _ _ hs ht) (by omega))) (sz_up (okL_sz h) (by omega))
theorem nil_sz2 : ∀ s ∈ ([] : List ByteArray), s.size ≤ 2000 := nil_sz 2000
theorem br1_sz2 (l1 : List ByteArray) (h1 : okL l1) : ∀ s ∈ br1 l1, s.size ≤ 2000 := sz_up (br1_sz l1 h1) (by omega)
theorem br23_sz2 (l1 l2 : List ByteArray) (h1 : okL l1) (h2 : okL l2) : ∀ s ∈ listB (br1 l1 ++ [markB (openG l1) oldM oldW]) l2 (openG l2), s.size ≤ 2000 := sz_up (br23_sz l1 l2 h1 h2) (by omega)
theorem m_len (o l : List ByteArray) (b : Bool) (s t : ByteArray) (h : okL l) (ho : o.length ≤ 5000) : (o ++ [markB b s t]).length + l.length ≤ 1000000 := by
  have := h.1
  rw [List.length_append]; simp; omega

theorem R_snocl {w : World} {n : Nat} {A : Option Addr} {c : Nat} {X Z : List ByteArray} {y : ByteArray} (h : Kd.R Kd.string 9 w n (fun _ => True) (.slice A (X ++ [y]).length c) Z) : Kd.R Kd.string 9 w n (fun _ => True) (.slice A (X.length + 1) c) Z := by
  rw [List.length_append] at h; exact h

set_option maxHeartbeats 8000000 in
set_option maxRecDepth 100000 in
theorem bracket_c (a0 : Int) (A1 : Option Addr) (c1 : Nat) (l1 : List ByteArray) (A2 : Option Addr) (c2 : Nat) (l2 : List ByteArray) (A3 : Option Addr) (c3 : Nat) (l3 : List ByteArray) (w : World)
    (hr1 : Kd.C Kd.string w A1 l1.length l1) (hc1 : l1.length ≤ c1) (hr2 : Kd.C Kd.string w A2 l2.length l2) (hc2 : l2.length ≤ c2) (hr3 : Kd.C Kd.string w A3 l3.length l3) (hc3 : l3.length ≤ c3) (h1 : okL l1) (h2 : okL l2) (h3 : okL l3) :
    Calls Try.prog 58 #[.int .i64 a0, .slice A1 l1.length c1, .slice A2 l2.length c2, .slice A3 l3.length c3] w fun e w' => ∃ v0_ : Value, e = .returned v0_ ∧ Kd.R Kd.string 9 w' w.heap.size (fun _ => True) v0_ (bracketG a0 l1 l2 l3) ∧ Below w.heap.size w w' := by
  have E1 := Aside0.mk h1.1
  have E2 := Aside0.mk h2.1
  have E3 := Aside0.mk h3.1
  have F2 := Aside0.mk (br2_len a0 l1 l2)
  have F3 := Aside0.mk (br3_len a0 l1 l2 l3)
  have R1 := Aside0.mk hr1
  have R2 := Aside0.mk hr2
  have R3 := Aside0.mk hr3
  clear hr1 hr2 hr3
  by_cases ha : a0 = 3
  · subst ha
    have HV0 := Aside0.mk (show VarsB w.heap.size w.heap.size (w.heap.size + 1) ((w.alloc (Obj.cells #[Value.slice none 0 0] 22)).alloc (Obj.cells #[Value.bool false] 4)) [] false from
      ⟨⟨_, (Boxed.new w 22 (.slice none 0 0)).alloc _, Kd.R_nil _ _ _ _ _⟩, by have := Boxed.new (w.alloc (Obj.cells #[Value.slice none 0 0] 22)) 4 (.bool false); rwa [World.size_alloc] at this⟩)
    have HB0 := Aside0.mk (show Below w.heap.size w ((w.alloc (Obj.cells #[Value.slice none 0 0] 22)).alloc (Obj.cells #[Value.bool false] 4)) from below_alloc (below_alloc (Below.refl _ _) _) _)
    go_enter Try.func58, Try.ntmps58
    go_wp2_with (first
      | (go_at_call 65; with_reducible refine (mark_c w.heap.size w.heap.size (w.heap.size + 1) (Nat.le_refl _) (by omega) [] false oursM mineW (by decide) (by decide) (by decide) _ HB0.out.size HV0.out).mono ?_
         rintro e w1 ⟨rfl, hv, hb⟩
         have HV1 := Aside0.mk hv
         have HB1 := Aside0.mk (HB0.out.trans hb)
         clear hv hb)
      | (go_at_call 66; with_reducible refine (list_c w w.heap.size (w.heap.size + 1) (Nat.le_refl _) (by omega) (by omega) ([] ++ [markB false oursM mineW]) l1 false (openG l1) A1 c1 (step_sz [] l1 false oursM mineW h1 nil_sz2 (by decide) (by decide)) (m_len [] l1 false oursM mineW h1 (by simp)) _ HB1.out HV1.out R1.out hc1 (open_f l1 h1).1 (openG_pos l1)).mono ?_
         rintro e w2 ⟨rfl, hv, hb⟩
         have HV2 := Aside0.mk hv
         have HB2 := Aside0.mk hb
         clear hv hb)
      | (go_at_call 65; with_reducible refine (mark_c w.heap.size w.heap.size (w.heap.size + 1) (Nat.le_refl _) (by omega) (br1 l1) (openG l1) oldM oldW (by decide) (by decide) (by rw [br1_len]; (have := E1.out; have := E2.out; have := E3.out; have := F2.out; omega)) _ HB2.out.size HV2.out).mono ?_
         rintro e w3 ⟨rfl, hv, hb⟩
         have HV3 := Aside0.mk hv
         have HB3 := Aside0.mk (HB2.out.trans hb)
         clear hv hb)
      | (go_at_call 66; with_reducible refine (list_c w w.heap.size (w.heap.size + 1) (Nat.le_refl _) (by omega) (by omega) (br1 l1 ++ [markB (openG l1) oldM oldW]) l2 (openG l1) (openG l2) A2 c2 (step_sz (br1 l1) l2 (openG l1) oldM oldW h2 (br1_sz2 l1 h1) (by decide) (by decide)) (m_len (br1 l1) l2 (openG l1) oldM oldW h2 (by rw [br1_len]; have := E1.out; omega)) _ HB3.out HV3.out R2.out hc2 (open_f l2 h2).1 (openG_pos l2)).mono ?_
         rintro e w4 ⟨rfl, hv, hb⟩
         have HV4 := Aside0.mk hv
         have HB4 := Aside0.mk hb
         clear hv hb)
      | (go_at_call 65; with_reducible refine (mark_c w.heap.size w.heap.size (w.heap.size + 1) (Nat.le_refl _) (by omega) (listB (br1 l1 ++ [markB (openG l1) oldM oldW]) l2 (openG l2)) (openG l2) eqM eqW (by decide) (by decide) (by rw [listB_len, List.length_append, br1_len]; simp; (have := E1.out; have := E2.out; have := E3.out; have := F2.out; omega)) _ HB4.out.size HV4.out).mono ?_
         rintro e w5 ⟨rfl, hv, hb⟩
         have HV5 := Aside0.mk hv
         have HB5 := Aside0.mk (HB4.out.trans hb)
         clear hv hb)
      | (go_at_call 66; with_reducible refine (list_c w w.heap.size (w.heap.size + 1) (Nat.le_refl _) (by omega) (by omega) ((listB (br1 l1 ++ [markB (openG l1) oldM oldW]) l2 (openG l2)) ++ [markB (openG l2) eqM eqW]) l3 (openG l2) (openG l3) A3 c3 (step_sz (listB (br1 l1 ++ [markB (openG l1) oldM oldW]) l2 (openG l2)) l3 (openG l2) eqM eqW h3 (br23_sz2 l1 l2 h1 h2) (by decide) (by decide)) (m_len (listB (br1 l1 ++ [markB (openG l1) oldM oldW]) l2 (openG l2)) l3 (openG l2) eqM eqW h3 (by rw [listB_len, List.length_append, br1_len]; have := E1.out; have := E2.out; simp; omega)) _ HB5.out HV5.out R3.out hc3 (open_f l3 h3).1 (openG_pos l3)).mono ?_
         rintro e w6 ⟨rfl, hv, hb⟩
         have HV6 := Aside0.mk hv
         have HB6 := Aside0.mk hb
         clear hv hb)
      | (go_at_call 65; with_reducible refine (mark_c w.heap.size w.heap.size (w.heap.size + 1) (Nat.le_refl _) (by omega) (listB ((listB (br1 l1 ++ [markB (openG l1) oldM oldW]) l2 (openG l2)) ++ [markB (openG l2) eqM eqW]) l3 (openG l3)) (openG l3) endM yoursW (by decide) (by decide) (by rw [listB_len, List.length_append, listB_len, List.length_append, br1_len]; simp; (have := E1.out; have := E2.out; have := E3.out; have := F2.out; omega)) _ HB6.out.size HV6.out).mono ?_
         rintro e w7 ⟨rfl, hv, hb⟩
         have HB7 := Aside0.mk (HB6.out.trans hb)
         obtain ⟨⟨v, hvB, hR⟩, hb9⟩ := hv
         obtain ⟨Av, cv, rfl⟩ := Kd.R_slice hR
         have HR9 := Aside0.mk hR
         have hvc := hvB.cell
         clear hb hR hb9 hvB))
    go_ret
    refine ⟨_, rfl, ?_, HB7.out⟩
    have e : bracketG 3 l1 l2 l3 = _ := rfl
    unfold bracketG br3 br2 op2
    rw [if_pos rfl, if_pos rfl]
    exact R_snocl HR9.out
  · have hq : (a0 == 3) = false := by simpa using ha
    have HV0 := Aside0.mk (show VarsB w.heap.size w.heap.size (w.heap.size + 1) ((w.alloc (Obj.cells #[Value.slice none 0 0] 22)).alloc (Obj.cells #[Value.bool false] 4)) [] false from
      ⟨⟨_, (Boxed.new w 22 (.slice none 0 0)).alloc _, Kd.R_nil _ _ _ _ _⟩, by have := Boxed.new (w.alloc (Obj.cells #[Value.slice none 0 0] 22)) 4 (.bool false); rwa [World.size_alloc] at this⟩)
    have HB0 := Aside0.mk (show Below w.heap.size w ((w.alloc (Obj.cells #[Value.slice none 0 0] 22)).alloc (Obj.cells #[Value.bool false] 4)) from below_alloc (below_alloc (Below.refl _ _) _) _)
    go_enter Try.func58, Try.ntmps58
    go_wp2_with (first
      | (go_at_call 65; with_reducible refine (mark_c w.heap.size w.heap.size (w.heap.size + 1) (Nat.le_refl _) (by omega) [] false oursM mineW (by decide) (by decide) (by decide) _ HB0.out.size HV0.out).mono ?_
         rintro e w1 ⟨rfl, hv, hb⟩
         have HV1 := Aside0.mk hv
         have HB1 := Aside0.mk (HB0.out.trans hb)
         clear hv hb)
      | (go_at_call 66; with_reducible refine (list_c w w.heap.size (w.heap.size + 1) (Nat.le_refl _) (by omega) (by omega) ([] ++ [markB false oursM mineW]) l1 false (openG l1) A1 c1 (step_sz [] l1 false oursM mineW h1 nil_sz2 (by decide) (by decide)) (m_len [] l1 false oursM mineW h1 (by simp)) _ HB1.out HV1.out R1.out hc1 (open_f l1 h1).1 (openG_pos l1)).mono ?_
         rintro e w2 ⟨rfl, hv, hb⟩
         have HV2 := Aside0.mk hv
         have HB2 := Aside0.mk hb
         clear hv hb)
      | (go_at_call 65; with_reducible refine (mark_c w.heap.size w.heap.size (w.heap.size + 1) (Nat.le_refl _) (by omega) (br1 l1) (openG l1) eqM eqW (by decide) (by decide) (by rw [br1_len]; (have := E1.out; have := E2.out; have := E3.out; have := F2.out; omega)) _ HB2.out.size HV2.out).mono ?_
         rintro e w3 ⟨rfl, hv, hb⟩
         have HV3 := Aside0.mk hv
         have HB3 := Aside0.mk (HB2.out.trans hb)
         clear hv hb)
      | (go_at_call 66; with_reducible refine (list_c w w.heap.size (w.heap.size + 1) (Nat.le_refl _) (by omega) (by omega) ((br1 l1) ++ [markB (openG l1) eqM eqW]) l3 (openG l1) (openG l3) A3 c3 (step_sz (br1 l1) l3 (openG l1) eqM eqW h3 (br1_sz2 l1 h1) (by decide) (by decide)) (m_len (br1 l1) l3 (openG l1) eqM eqW h3 (by rw [br1_len]; have := E1.out; omega)) _ HB3.out HV3.out R3.out hc3 (open_f l3 h3).1 (openG_pos l3)).mono ?_
         rintro e w4 ⟨rfl, hv, hb⟩
         have HV4 := Aside0.mk hv
         have HB4 := Aside0.mk hb
         clear hv hb)
      | (go_at_call 65; with_reducible refine (mark_c w.heap.size w.heap.size (w.heap.size + 1) (Nat.le_refl _) (by omega) (listB ((br1 l1) ++ [markB (openG l1) eqM eqW]) l3 (openG l3)) (openG l3) endM yoursW (by decide) (by decide) (by rw [listB_len, List.length_append, br1_len]; simp; (have := E1.out; have := E2.out; have := E3.out; have := F2.out; omega)) _ HB4.out.size HV4.out).mono ?_
         rintro e w5 ⟨rfl, hv, hb⟩
         have HB5 := Aside0.mk (HB4.out.trans hb)
         obtain ⟨⟨v, hvB, hR⟩, hb9⟩ := hv
         obtain ⟨Av, cv, rfl⟩ := Kd.R_slice hR
         have HR9 := Aside0.mk hR
         have hvc := hvB.cell
         clear hb hR hb9 hvB))
    go_ret
    refine ⟨_, rfl, ?_, HB5.out⟩
    have e : bracketG a0 l1 l2 l3 = _ := rfl
    unfold bracketG br3 br2 op2
    first | rw [if_pos ha, if_pos ha] | rw [if_neg ha, if_neg ha]
    exact R_snocl HR9.out
end Go.Proofs.Ytbhfenpccccloaa.M
