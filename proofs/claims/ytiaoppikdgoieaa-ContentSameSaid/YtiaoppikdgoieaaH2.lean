/- content.others: the loop. -/
import Derived.Test.YtiaoppikdgoieaaH1
namespace Go.Proofs.Ytiaoppikdgoieaa.M
open Go.RowKit Go.Proofs.YtiaoppikdgoieaaW.PrintWords Go.Proofs.YtiaoppikdgoieaaW.PrintLast Go.Proofs.YtiaoppikdgoieaaW.PrintMore Go.Proofs.Ytiaoppikdgoieaa.Hand
set_option linter.unusedVariables false
set_option linter.unusedSimpArgs false

set_option maxHeartbeats 4000000 in
set_option maxRecDepth 100000 in
theorem others_calls (A0 : Option Addr) (c0 : Nat) (l0 : List ByteArray) (P1_ : Nat → Prop) (A1 : Option Addr) (c1 : Nat) (l1 : List (List ByteArray)) (w : World) (hr0 : Kd.C Kd.string w A0 l0.length l0) (hc0 : l0.length ≤ c0)
    (hs1 : Kd.V (Kd.slice 9 Kd.string) 22 w w.heap.size (fun k_ => P1_ k_) (.slice A1 l1.length c1) l1) (hlen : (othersG l0 l1 []).length ≤ 5864062014805) :
    Calls Try.prog 51 #[.slice A0 l0.length c0, .slice A1 l1.length c1, .func (.func 52) #[] #[]] w fun e w' => ∃ v0_ : Value, e = .returned (v0_) ∧ Kd.N (Kd.slice 9 Kd.string) 22 w' w.heap.size (fun k_ => (P1_ k_ ∨ w.heap.size ≤ k_)) v0_ (othersG l0 l1 []) ∧ Below w.heap.size w w' := by
  have HR0 := Aside0.mk hr0
  have HC0 := Aside0.mk hc0
  have HS1 := Aside0.mk (Kd.V_bound hs1)
  have HL := Aside0.mk (Kd.V_reads' hs1).2.2.2.1
  have HLE := Aside0.mk hlen
  clear hr0 hc0 hs1 hlen
  go_enter Try.func51, Try.ntmps51
  go_wp2
  repeat (go_quiet (fail); try go_wp2)
  go_loopg [7, 13] l1.length (fun kq v7 v13 wr => ∃ i : Nat, v13 = .int .i64 (i : Int) ∧ Aside0 (i ≤ l1.length ∧ kq = l1.length - i) ∧
    Aside0 (Kd.N (Kd.slice 9 Kd.string) 22 wr w.heap.size (fun k_ => (P1_ k_ ∨ w.heap.size ≤ k_)) v7 (othersG l0 (l1.take i) [])) ∧ Aside0 (wr.heap[w.heap.size]? = some (.cells #[.func (.func 52) #[] #[]] 33 (0, 0))) ∧ Aside0 (Below w.heap.size w wr))
  case atStart => exact ⟨0, rfl, ⟨Nat.zero_le _, rfl⟩, ⟨Kd.N_nil _ _ _ _ _⟩, ⟨heap_alloc_new _ _⟩, ⟨(Below.refl _ _).alloc (Nat.le_refl _) _⟩⟩
  case round =>
    obtain ⟨i, rfl, HI, HO, HF, HB⟩ := hrel
    have hli := HL.out
    by_cases c4 : i < l1.length
    · have c4b0 : decide ((i : Int) < (l1.length : Int)) = true := decide_eq_true (by omega)
      have c4b1 : decide (i < l1.length) = true := decide_eq_true c4
      have hV := Kd.V_below (Kd.V_mono HS1.out (fun _ h => h)) HB.out
      obtain ⟨z, g0⟩ : ∃ z, l1[i]? = some z := ⟨_, List.getElem?_eq_getElem c4⟩
      obtain ⟨ad, A2, c2, rfl, hx, hl, hi, hf⟩ := V_row hV i z g0
      have hsn := othersG_snoc l0 (l1.take i) [] z
      rw [← take_snoc l1 i z g0] at hsn
      have HSN := Aside0.mk hsn
      have HR2 := Aside0.mk hi
      have HC2 := Aside0.mk hl
      have HFK := Aside0.mk hf
      clear hi hl g0 hf hV hsn
      have bi : (i : Int) < 9223372036854775807 := by omega
      obtain ⟨acc, hacc⟩ : ∃ acc, acc = othersG l0 (l1.take i) [] := ⟨_, rfl⟩
      rw [← hacc] at HO HSN
      have HACC := Aside0.mk hacc
      clear hacc
      by_cases hp : z = l0
      · have HD := Aside0.mk (decide_eq_true hp)
        rw [HD.out, Bool.true_or, if_pos rfl] at HSN
        clear hp
        go_wp2_with (go_at_call 72; (with_reducible refine (others1_calls _ ⟨w.heap.size, 0, none⟩ ⟨wr.heap.size, 0, none⟩ _ _ l0 A2 c2 z ?sa ?sb ?sc ?sd ?se ?sf).mono ?_); (case sa => exact cell_later HF.out (by repeat (first | exact Below.refl _ _ | apply below_alloc | apply pw_below_drewN))); (case sb => exact cell_new _ _ _); (case sc => exact Kd.C_alloc (Kd.C_below HR0.out HB.out) _); (case sd => exact HC0.out); (case se => exact Kd.C_alloc HR2.out _); (case sf => exact HC2.out); rintro e w' ⟨he, ⟨nd, rfl⟩⟩; rw [HD.out] at he; subst he)
        go_roundg (l1.length - (i + 1))
        case measure => have := HI.out; omega
        case rel => exact ⟨i + 1, by go_num, ⟨by omega, rfl⟩, ⟨by rw [HSN.out]; exact Kd.N_drewN (Kd.N_alloc HO.out _) _⟩, ⟨blk_later HF.out (by repeat (first | exact Below.refl _ _ | apply below_alloc | apply pw_below_drewN))⟩, ⟨by repeat (first | exact HB.out | apply below_alloc | apply pw_below_drewN)⟩⟩
      · have HD := Aside0.mk (decide_eq_false hp)
        rw [HD.out, Bool.false_or] at HSN
        clear hp
        obtain ⟨AO, cO, rfl⟩ := Kd.N_slice HO.out
        by_cases hq : (acc.any fun t => decide (z = t)) = true
        · rw [if_pos hq] at HSN
          have HQ := Aside0.mk hq
          clear hq
          go_wp2_with (first | (go_at_call 72; (with_reducible refine (others1_calls _ ⟨w.heap.size, 0, none⟩ ⟨wr.heap.size, 0, none⟩ _ _ l0 A2 c2 z ?sa ?sb ?sc ?sd ?se ?sf).mono ?_); (case sa => exact cell_later HF.out (by repeat (first | exact Below.refl _ _ | apply below_alloc | apply pw_below_drewN))); (case sb => exact cell_new _ _ _); (case sc => exact Kd.C_alloc (Kd.C_below HR0.out HB.out) _); (case sd => exact HC0.out); (case se => exact Kd.C_alloc HR2.out _); (case sf => exact HC2.out); rintro e w' ⟨he, ⟨nd, rfl⟩⟩; rw [HD.out] at he; subst he) | (go_at_call 60; (with_reducible refine (contains72_calls _ ⟨w.heap.size, 0, none⟩ ⟨wr.heap.size, 0, none⟩ _ _ acc A2 c2 z ?ta ?tb ?tc ?td ?te ?tf).mono ?_); (case ta => exact cell_later HF.out (by repeat (first | exact Below.refl _ _ | apply below_alloc | apply pw_below_drewN))); (case tb => exact (cell_new _ _ _)); (case tc => exact (Kd.C_drewN (Kd.C_alloc (Kd.N_reads' HO.out).2.2 _) _)); (case td => exact (Kd.N_reads' HO.out).2.1); (case te => exact Kd.C_drewN (Kd.C_alloc HR2.out _) _); (case tf => exact HC2.out); rintro e w' ⟨he, ⟨nd2, rfl⟩⟩; rw [HQ.out] at he; subst he))
          go_roundg (l1.length - (i + 1))
          case measure => have := HI.out; omega
          case rel => exact ⟨i + 1, by go_num, ⟨by omega, rfl⟩, ⟨by rw [HSN.out]; exact Kd.N_drewN (Kd.N_alloc HO.out _) _⟩, ⟨blk_later HF.out (by repeat (first | exact Below.refl _ _ | apply below_alloc | apply pw_below_drewN))⟩, ⟨by repeat (first | exact HB.out | apply below_alloc | apply pw_below_drewN)⟩⟩
        · rw [if_neg hq] at HSN
          have HQ := Aside0.mk (Bool.eq_false_iff.mpr hq)
          clear hq
          have HLEN : Aside0 (acc.length + 1 ≤ 5864062014805) := ⟨by
            have h1 := HSN.out
            have h2 := HLE.out
            have h3 := othersG_pre l0 (l1.take (i + 1)) (l1.drop (i + 1)) []
            rw [List.take_append_drop, h1, List.length_append, List.length_singleton] at h3
            omega⟩
          go_wp2_with (first | (go_at_call 72; (with_reducible refine (others1_calls _ ⟨w.heap.size, 0, none⟩ ⟨wr.heap.size, 0, none⟩ _ _ l0 A2 c2 z ?sa ?sb ?sc ?sd ?se ?sf).mono ?_); (case sa => exact cell_later HF.out (by repeat (first | exact Below.refl _ _ | apply below_alloc | apply pw_below_drewN))); (case sb => exact cell_new _ _ _); (case sc => exact Kd.C_alloc (Kd.C_below HR0.out HB.out) _); (case sd => exact HC0.out); (case se => exact Kd.C_alloc HR2.out _); (case sf => exact HC2.out); rintro e w' ⟨he, ⟨nd, rfl⟩⟩; rw [HD.out] at he; subst he) | (go_at_call 60; (with_reducible refine (contains72_calls _ ⟨w.heap.size, 0, none⟩ ⟨wr.heap.size, 0, none⟩ _ _ acc A2 c2 z ?ta ?tb ?tc ?td ?te ?tf).mono ?_); (case ta => exact cell_later HF.out (by repeat (first | exact Below.refl _ _ | apply below_alloc | apply pw_below_drewN))); (case tb => exact (cell_new _ _ _)); (case tc => exact (Kd.C_drewN (Kd.C_alloc (Kd.N_reads' HO.out).2.2 _) _)); (case td => exact (Kd.N_reads' HO.out).2.1); (case te => exact Kd.C_drewN (Kd.C_alloc HR2.out _) _); (case tf => exact HC2.out); rintro e w' ⟨he, ⟨nd2, rfl⟩⟩; rw [HQ.out] at he; subst he) | ((with_reducible refine gate_builtin (b := .append) (xs := #[.tmp 28, .tmp 30]) rfl ?_); at_builtin; refine Kd.N_append (Kd.slice 9 Kd.string) (w0 := w) w.heap.size rfl (.tmp 28) (.tmp 30) 23 22 (.slice none 0 0) 24 rfl Try.underlying23 info22 rfl (by decide) (by omega) (.slice AO acc.length cO) acc z [.slice A2 z.length c2] (fun k_ => (P1_ k_ ∨ w.heap.size ≤ k_)) (fun k_ => P1_ k_ ∧ k_ < w.heap.size) rfl ?aX ?aP ?aK ?aF ?aO ?aB ?aS ?aL ?_; (case aX => show Value.slice (some ⟨wr.heap.size + 1, 0, none⟩) 1 1 = _; simp); (case aP => exact Kd.FK_slice_mk HC2.out (Kd.F_below HFK.out (by repeat (first | exact Below.refl _ _ | apply below_alloc | apply pw_below_drewN)))); (case aK => exact fun k hk => ⟨.inl hk.1, fun he => by have := Kd.N_base HO.out k he.symm; have := hk.2; omega⟩); (case aB => exact (by repeat (first | (with_reducible first | exact HB.out | apply below_alloc | apply pw_below_drewN | apply below_drew1) | exact HB.out))); (case aF => exact (fun k_ hk => (.inr (Nat.le_trans (below_size (by repeat (first | (with_reducible first | exact HB.out | apply below_alloc | apply pw_below_drewN | apply below_drew1) | exact HB.out))) hk)))); (case aO => exact (by (with_reducible repeat (first | apply Kd.N_alloc | apply Kd.N_drewN | apply Kd.N_drew)); exact HO.out)); (case aS => exact (below_size (by repeat (first | (with_reducible first | exact HB.out | apply below_alloc | apply pw_below_drewN | apply below_drew1) | exact HB.out)))); (case aL => have := HLEN.out; omega); intro v126 w17 ho hb hg hat; have n1 := Aside0.mk ho; have n2 := Aside0.mk hb; have n3 := Aside0.mk (blk_grown (blk_later HF.out (by repeat (first | exact Below.refl _ _ | apply below_alloc | apply pw_below_drewN))) hg (Kd.N_ne HO.out HF.out (by decide))); clear ho hb hg hat))
          go_roundg (l1.length - (i + 1))
          case measure => have := HI.out; omega
          case rel => exact ⟨i + 1, by go_num, ⟨by omega, rfl⟩, ⟨by rw [HSN.out]; exact n1.out⟩, n3, n2⟩
    · have c4b0 : decide ((i : Int) < (l1.length : Int)) = false := decide_eq_false (by omega)
      have c4b1 : decide (i < l1.length) = false := decide_eq_false c4
      have HT := Aside0.mk (List.take_of_length_le (l := l1) (i := i) (by omega))
      clear c4
      go_wp2
      repeat (go_quiet (fail); try go_wp2)
      go_ret
      exact ⟨_, rfl, by have := HO.out; rw [HT.out] at this; exact this, HB.out⟩
end Go.Proofs.Ytiaoppikdgoieaa.M
