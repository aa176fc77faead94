/- content.Parts: the loop. -/
import Derived.Test.YtiaoppikdgoieaaH3
import Derived.Deep.DrawnRows
namespace Go.Proofs.Ytiaoppikdgoieaa.M
open Go.RowKit Go.Proofs.YtiaoppikdgoieaaW.PrintWords Go.Proofs.YtiaoppikdgoieaaW.PrintLast Go.Proofs.YtiaoppikdgoieaaW.PrintMore Go.Proofs.Ytiaoppikdgoieaa.Hand
set_option linter.unusedVariables false
set_option linter.unusedSimpArgs false

/-- What content.Parts tells: texts, and the fault's number. -/
def partsG (f t : Int) (sp : List S35) (b : List ByteArray) (l : List (List ByteArray)) : List ByteArray × List (List ByteArray) × Int :=
  if sp.length = l.length then (if (spanB f t b.length && spansB sp l) = true then (cutL f t b, cutsL sp l, 0) else ([], [], 3)) else ([], [], 1)

set_option maxHeartbeats 4000000 in
set_option maxRecDepth 100000 in
theorem parts26_yes (a0 : Bool) (f t : Int) (A0 : Option Addr) (c0 : Nat) (sp : List S35) (P1_ : Nat → Prop) (A1 : Option Addr) (c1 : Nat) (l1 : List ByteArray) (P2_ : Nat → Prop) (A2 : Option Addr) (c2 : Nat) (l2 : List (List ByteArray)) (w : World)
    (hr0 : Kd.C k35 w A0 sp.length sp) (hc0 : sp.length ≤ c0) (hs1 : Kd.V Kd.string 9 w w.heap.size (fun k_ => P1_ k_) (.slice A1 l1.length c1) l1) (hs2 : Kd.V (Kd.slice 9 Kd.string) 22 w w.heap.size (fun k_ => P2_ k_) (.slice A2 l2.length c2) l2)
    (hlen : sp.length = l2.length) (hbig : l2.length ≤ 5864062014805) (hb : spanB f t l1.length = true) :
    Calls Try.prog 26 #[.agg #[.bool a0, .int .i64 f, .int .i64 t, .slice A0 sp.length c0], .slice A1 l1.length c1, .slice A2 l2.length c2] w fun e w' => ∃ v0_ v1_ : Value, e = .returned (.tuple #[v0_, v1_, .int .i64 (partsG f t sp l1 l2).2.2]) ∧ Kd.V Kd.string 9 w' w.heap.size (fun k_ => P1_ k_ ∧ k_ < w.heap.size) v0_ (partsG f t sp l1 l2).1 ∧ Kd.N (Kd.slice 9 Kd.string) 22 w' w.heap.size (fun k_ => (P2_ k_ ∨ w.heap.size ≤ k_)) v1_ (partsG f t sp l1 l2).2.1 ∧ Below w.heap.size w w' := by
  have HR0 := Aside0.mk hr0
  have HC0 := Aside0.mk hc0
  have HS1 := Aside0.mk hs1
  have HS2 := Aside0.mk hs2
  have HL := Aside0.mk hlen
  have HLE := Aside0.mk hr0.2.1
  have HBB := Aside0.mk hb
  have HLB := Aside0.mk hbig
  have hn1 : ((sp.length : Int) != (l2.length : Int)) = false := bne_eq_false_iff_eq.mpr (by omega)
  have hn2 : (sp.length != l2.length) = false := bne_eq_false_iff_eq.mpr hlen
  clear hr0 hc0 hs1 hs2 hlen hb hbig
  go_enter Try.func26, Try.ntmps26
  go_wp2_with (go_at_call 49; (with_reducible refine (cut49_yes _ _ A1 c1 l1 f t w.heap.size (fun k_ => P1_ k_ ∧ k_ < w.heap.size) (Kd.V_below (Kd.V_bound HS1.out) (by repeat (first | exact Below.refl _ _ | apply below_alloc | apply pw_below_drewN))) HBB.out).mono ?_); rintro e w' ⟨v0, rfl, hv0, rfl⟩; have HV0 := Aside0.mk hv0; clear hv0)
  obtain ⟨w3, hw3⟩ : ∃ w3, w3 = ((w.alloc (.cells #[.bool a0, .int .i64 f, .int .i64 t, .slice A0 sp.length c0] 38)).alloc (.cells #[.bool true] 4)).alloc (.cells #[.int .i64 f, .int .i64 t] 35) := ⟨_, rfl⟩
  have hB3 : Below w.heap.size w w3 := by rw [hw3]; repeat (first | exact Below.refl _ _ | apply below_alloc)
  have hK3 : w3.heap[w.heap.size + 1]? = some (.cells #[.bool true] 4 (0, 0)) := by
    rw [hw3]
    refine blk_later (w := (w.alloc (.cells #[.bool a0, .int .i64 f, .int .i64 t, .slice A0 sp.length c0] 38)).alloc (.cells #[.bool true] 4)) ?_ (by repeat (first | exact Below.refl _ _ | apply below_alloc))
    have := Go.heap_alloc_new (w.alloc (.cells #[.bool a0, .int .i64 f, .int .i64 t, .slice A0 sp.length c0] 38)) (.cells #[.bool true] 4)
    simpa using this
  have hz3 : w.heap.size + 2 ≤ w3.heap.size := by rw [hw3]; simp
  rw [← hw3] at HV0 ⊢
  have HB3 := Aside0.mk hB3
  have HK3 := Aside0.mk hK3
  have HZ3 := Aside0.mk hz3
  clear hw3 hB3 hK3 hz3
  go_loopg [12, 30] l2.length (fun kq v12 v30 wr => ∃ (i : Nat) (b : Bool), v30 = .int .i64 (i : Int) ∧ Aside0 (i ≤ l2.length ∧ kq = l2.length - i) ∧ Aside0 (b = spansB (sp.take i) (l2.take i)) ∧ Aside0 (wr.heap[w.heap.size + 1]? = some (.cells #[.bool b] 4 (0, 0))) ∧
    Aside0 (Kd.N (Kd.slice 9 Kd.string) 22 wr (w.heap.size + 2) (fun k_ => (P2_ k_ ∧ k_ < w.heap.size) ∨ w.heap.size + 2 ≤ k_) v12 (cutsL (sp.take i) (l2.take i))) ∧ Aside0 (Below w.heap.size w wr) ∧ Aside0 (w.heap.size + 2 ≤ wr.heap.size))
  case atStart => exact ⟨0, true, rfl, ⟨Nat.zero_le _, rfl⟩, ⟨by simp [spansB]⟩, HK3, ⟨Kd.N_nil _ _ _ _ _⟩, HB3, HZ3⟩
  case round =>
    obtain ⟨i, b, rfl, HI, HBV, HK, HO, HB, HZ⟩ := hrel
    have hli := HLE.out
    by_cases c4 : i < l2.length
    · have c5 : i < sp.length := by have := HL.out; omega
      have c4b0 : decide ((i : Int) < (sp.length : Int)) = true := decide_eq_true (by omega)
      have c4b1 : decide (i < sp.length) = true := decide_eq_true c5
      have c4b2 : decide (i < l2.length) = true := decide_eq_true c4
      obtain ⟨z, g0⟩ : ∃ z, l2[i]? = some z := ⟨_, List.getElem?_eq_getElem c4⟩
      obtain ⟨sn, g1⟩ : ∃ sn, sp[i]? = some sn := ⟨_, List.getElem?_eq_getElem c5⟩
      have hV2 := Kd.V_below (Kd.V_bound HS2.out) HB.out
      obtain ⟨ad, A4, c4', rfl, hx, hl4, hi4, hf4⟩ := V_row hV2 i z g0
      obtain ⟨ap, rfl, hs1, hs2⟩ := C_span (Kd.C_below HR0.out HB.out) i sn g1
      have HSN := Aside0.mk (cutsL_snoc sp l2 i sn z g1 g0)
      have HSB := Aside0.mk (spansB_snoc sp l2 i sn z g1 g0)
      have HC4 := Aside0.mk hl4
      have HF4 := Aside0.mk hf4
      have HN := Aside0.mk c4
      clear hl4 hf4 hi4 g0 g1 hV2
      have bi : (i : Int) < 9223372036854775807 := by omega
      have hxA : (wr.alloc (.cells #[.int .i64 sn.f0, .int .i64 sn.f1] 35)).cell? (ad.add i) = some (.slice A4 z.length c4') := pw_cell_below (below_alloc (Below.refl _ _) _) hx
      have hn0 : (wr.alloc (.cells #[.int .i64 sn.f0, .int .i64 sn.f1] 35)).cell? ⟨wr.heap.size, 0, none⟩ = some (.int .i64 sn.f0) := blk_cell (Go.heap_alloc_new wr _) 0
      have hn1 : (wr.alloc (.cells #[.int .i64 sn.f0, .int .i64 sn.f1] 35)).cell? ⟨wr.heap.size, 1, none⟩ = some (.int .i64 sn.f1) := blk_cell (Go.heap_alloc_new wr _) 1
      by_cases hv : spanB sn.f0 sn.f1 z.length = true
      · have HV := Aside0.mk hv
        clear hv
        go_wp2_with fail
        have hBW : Below w.heap.size w (wr.alloc (.cells #[.int .i64 sn.f0, .int .i64 sn.f1] 35)) := below_alloc HB.out _
        have hOW := Kd.N_alloc HO.out (.cells #[.int .i64 sn.f0, .int .i64 sn.f1] 35)
        have hKW := blk_later HK.out (below_alloc (Below.refl _ _) (.cells #[.int .i64 sn.f0, .int .i64 sn.f1] 35))
        have hRW := below_alloc (Below.refl wr.heap.size wr) (.cells #[.int .i64 sn.f0, .int .i64 sn.f1] 35)
        have hZW : w.heap.size + 2 ≤ (wr.alloc (.cells #[.int .i64 sn.f0, .int .i64 sn.f1] 35)).heap.size := by simp; have := HZ.out; omega
        obtain ⟨W4, hW4⟩ : ∃ W4, W4 = (wr.alloc (.cells #[.int .i64 sn.f0, .int .i64 sn.f1] 35)).drew := ⟨_, rfl⟩
        replace hBW : Below w.heap.size w W4 := by rw [hW4]; exact below_drew hBW
        replace hOW := Kd.N_drew hOW
        replace hKW : W4.heap[w.heap.size + 1]? = some (.cells #[.bool b] 4 (0, 0)) := by rw [hW4]; exact hKW
        replace hRW : Below wr.heap.size wr W4 := by rw [hW4]; exact below_drew hRW
        replace hZW : w.heap.size + 2 ≤ W4.heap.size := by rw [hW4]; exact hZW
        rw [← hW4] at hOW
        have HBW := Aside0.mk hBW
        have HOW := Aside0.mk hOW
        have HKW := Aside0.mk hKW
        have HRW := Aside0.mk hRW
        have HZW := Aside0.mk hZW
        clear hBW hOW hKW hRW hZW HK HO HB
        refine start_ (n := 11) (S := fun w' => w'.cell? (ad.add i) = some (.slice A4 z.length c4') ∧ w'.cell? ⟨wr.heap.size, 0, none⟩ = some (.int .i64 sn.f0) ∧ w'.cell? ⟨wr.heap.size, 1, none⟩ = some (.int .i64 sn.f1)) (ds := [7, 8, 9]) #[false, false, false, false, false, false, false, false, false, false, false] (by kernel_rfl) rfl rfl ⟨hxA, hn0, hn1⟩ (fun hHeld => ?_)
        rw [← hW4] at hHeld ⊢
        clear hW4 hxA hn0 hn1
        refine pure_ (i := 0) (N := some 35) (v := ?_) (a' := ?_) #[true, false, false, false, false, false, false, false, false, false, false] rfl rfl (by kernel_rfl) (fun _ _ _ h => h) (Or.inl ⟨by rfl, ?_⟩) ?_ ?_
        rotate_left
        · intro w'
          go_simp
          with_reducible rfl
        rotate_left
        · simp only [Act.put, List.setIfInBounds_toArray, List.set_cons_zero, List.set_cons_succ, i64_w, i32_w]
          rfl
        refine pure_ (i := 1) (N := some 36) (v := ?_) (a' := ?_) #[true, true, false, false, false, false, false, false, false, false, false] rfl rfl (by kernel_rfl) (fun _ _ _ h => h) (Or.inl ⟨by rfl, ?_⟩) ?_ ?_
        rotate_left
        · intro w'
          go_simp
          with_reducible rfl
        rotate_left
        · simp only [Act.put, List.setIfInBounds_toArray, List.set_cons_zero, List.set_cons_succ, i64_w, i32_w]
          rfl
        refine pure_ (i := 2) (N := some 37) (v := ?_) (a' := ?_) #[true, true, true, false, false, false, false, false, false, false, false] rfl rfl (by kernel_rfl) (fun _ _ _ h => h) (Or.inl ⟨by rfl, ?_⟩) ?_ ?_
        rotate_left
        · intro w'
          go_simp
          with_reducible rfl
        rotate_left
        · simp only [Act.put, List.setIfInBounds_toArray, List.set_cons_zero, List.set_cons_succ, i64_w, i32_w]
          rfl
        refine pure_ (i := 3) (N := some 38) (v := ?_) (a' := ?_) #[true, true, true, true, false, false, false, false, false, false, false] rfl rfl (by kernel_rfl) (fun _ _ _ h => h) (Or.inl ⟨by rfl, ?_⟩) ?_ ?_
        rotate_left
        · intro w'
          go_simp
          with_reducible rfl
        rotate_left
        · simp only [Act.put, List.setIfInBounds_toArray, List.set_cons_zero, List.set_cons_succ, i64_w, i32_w]
          rfl
        refine pure_ (i := 4) (N := some 39) (v := ?_) (a' := ?_) #[true, true, true, true, true, false, false, false, false, false, false] rfl rfl (by kernel_rfl) (fun _ _ _ h => h) (Or.inl ⟨by rfl, ?_⟩) ?_ ?_
        rotate_left
        · intro w'
          go_simp
          with_reducible rfl
        rotate_left
        · simp only [Act.put, List.setIfInBounds_toArray, List.set_cons_zero, List.set_cons_succ, i64_w, i32_w]
          rfl
        refine take_ (i := 5) (N := some 40) (v := ?_) (a' := ?_) #[true, true, true, true, true, true, false, false, false, false, false] rfl rfl (by kernel_rfl) (fun _ _ _ h => h) (Or.inl ⟨by rfl, ?_⟩) hHeld ?_ ?_
        rotate_left
        · rintro w' ⟨s0, s1, s2⟩
          go_simp
          with_reducible rfl
        rotate_left
        · simp only [Act.put, List.setIfInBounds_toArray, List.set_cons_zero, List.set_cons_succ, i64_w, i32_w]
          rfl
        refine take_ (i := 6) (N := some 41) (v := ?_) (a' := ?_) #[true, true, true, true, true, true, true, false, false, false, false] rfl rfl (by kernel_rfl) (fun _ _ _ h => h) (Or.inl ⟨by rfl, ?_⟩) hHeld ?_ ?_
        rotate_left
        · rintro w' ⟨s0, s1, s2⟩
          go_simp
          with_reducible rfl
        rotate_left
        · simp only [Act.put, List.setIfInBounds_toArray, List.set_cons_zero, List.set_cons_succ, i64_w, i32_w]
          rfl
        refine last_ (i := 7) (N := some 42) #[true, true, true, true, true, true, true, true, false, false, false] rfl rfl (by kernel_rfl) (by decide) (fun K hK => ?_)
        refine goesT_ #[.pointer (some ⟨w.heap.size + 1, 0, none⟩)] #[.slice A4 z.length c4', .agg #[.int .i64 sn.f0, .int .i64 sn.f1], .pointer (some ⟨w.heap.size + 1, 0, none⟩)] Try.func49 (by kernel_rfl) rfl #[.slice A4 z.length c4', .agg #[.int .i64 sn.f0, .int .i64 sn.f1]] rfl (by rfl) rfl rfl (by rfl) (by simp only [List.map_toArray, List.map_cons, List.map_nil]; rfl) ?_
        with_reducible refine (cut49_yes _ (w.heap.size + 1) A4 c4' z sn.f0 sn.f1 w.heap.size (fun k_ => P2_ k_ ∧ k_ < w.heap.size) ?hs HV.out).mono ?_
        case hs => exact Kd.V_mk HC4.out (Kd.F_below HF4.out HRW.out)
        rintro e w3 ⟨v, rfl, hv, rfl⟩
        refine ⟨_, rfl, ?_⟩
        obtain ⟨A5, c5x, rfl, hl5, hF5⟩ := hv
        have HL5 := Aside0.mk hl5
        have HF5 := Aside0.mk hF5
        clear hl5 hF5
        refine hK.out _ _ ?_
        clear hK K
        refine norm_ (a' := ?_) ?_ ?_
        rotate_left
        · show Act.put _ (some 42) _ = _
          simp only [Act.put, List.setIfInBounds_toArray, List.set_cons_zero, List.set_cons_succ, i64_w, i32_w]
          rfl
        refine last_ (i := 8) (N := some 43) #[true, true, true, true, true, true, true, true, true, false, false] rfl rfl (by kernel_rfl) (by decide) (fun K hK => ?_)
        refine value_ (w1 := ?_) (v := ?_) (by rfl) rfl ?_ ?_
        rotate_left 2
        · go_simp
          constructor
          · rfl
          · rfl
        refine hK.out _ _ ?_
        clear hK K
        refine norm_ (a' := ?_) ?_ ?_
        rotate_left
        · show Act.put _ (some 43) _ = _
          simp only [Act.put, List.setIfInBounds_toArray, List.set_cons_zero, List.set_cons_succ, i64_w, i32_w]
          rfl
        refine last_ (i := 9) (N := some 44) #[true, true, true, true, true, true, true, true, true, true, false] rfl rfl (by kernel_rfl) (by decide) (fun K hK => ?_)
        refine Kd.N_append_step (Kd.slice 9 Kd.string) (w.heap.size + 2) (by rfl) (.tmp 35) (.tmp 43) 23 22 (.slice none 0 0) 24 rfl Try.underlying23 info22 rfl (by decide) (by omega) u12 (cutsL (sp.take i) (l2.take i)) (cutL sn.f0 sn.f1 z) [.slice A5 (cutL sn.f0 sn.f1 z).length c5x] (fun k_ => (P2_ k_ ∧ k_ < w.heap.size) ∨ w.heap.size + 2 ≤ k_) (fun k_ => P2_ k_ ∧ k_ < w.heap.size) rfl ?_ ?_ ?_ ?_ ?_ (Below.refl _ _) ?_ ?_ ?_
        · show Value.slice (some ⟨W4.heap.size + 1, 0, none⟩) 1 1 = _; simp
        · exact Kd.FK_slice_mk HL5.out HF5.out
        · exact fun k hk => ⟨.inl hk, fun he => by have := Kd.N_base HOW.out k he.symm; have := hk.2; omega⟩
        · exact fun k hk => .inr (by simp at hk; have := HZW.out; omega)
        · exact Kd.N_alloc HOW.out _
        · exact (by simp; have := HZW.out; omega)
        · have := HN.out; have := HLB.out; unfold cutsL; simp; omega
        intro v126 w17 ho hb hg hat
        have n1 := Aside0.mk ho
        have n2 := Aside0.mk hb
        have n3 := Aside0.mk (blk_grown (blk_later HKW.out (below_alloc (Below.refl _ _) _)) hg (fun he => by have := Kd.N_base HOW.out (w.heap.size + 1) he.symm; omega))
        have n4 := Aside0.mk (Below.trans (below_alloc HBW.out _) (hb.mono (by omega)))
        have n5 := Aside0.mk (show w.heap.size + 2 ≤ w17.heap.size from by have hs := hb.size; simp at hs; have := HZW.out; omega)
        clear ho hb hg hat
        refine hK.out _ _ ?_
        clear hK K
        refine norm_ (a' := ?_) ?_ ?_
        rotate_left
        · show Act.put _ (some 44) _ = _
          simp only [Act.put, List.setIfInBounds_toArray, List.set_cons_zero, List.set_cons_succ, i64_w, i32_w]
          rfl
        refine pure_ (i := 10) (N := some 12) (v := ?_) (a' := ?_) #[true, true, true, true, true, true, true, true, true, true, true] rfl rfl (by kernel_rfl) (fun _ _ _ h => h) (Or.inl ⟨by rfl, ?_⟩) ?_ ?_
        rotate_left
        · intro w'
          go_simp
          with_reducible rfl
        rotate_left
        · simp only [Act.put, List.setIfInBounds_toArray, List.set_cons_zero, List.set_cons_succ, i64_w, i32_w]
          rfl
        refine done_ (by kernel_rfl) ?_

        go_wp2
        go_roundg (l2.length - (i + 1))
        case measure => have := HI.out; omega
        case rel => exact ⟨i + 1, b, by go_num, ⟨by omega, rfl⟩, ⟨by rw [HSB.out, ← HBV.out]; rw [HV.out, Bool.and_true]⟩, n3, ⟨by rw [HSN.out]; exact n1.out⟩, n4, n5⟩
      · have HV := Aside0.mk (Bool.eq_false_iff.mpr hv)
        have HCN : Aside0 (cutL sn.f0 sn.f1 z = []) := ⟨by unfold cutL; rw [if_neg hv]⟩
        rw [HCN.out] at HSN
        clear hv
        go_wp2_with fail
        have hBW : Below w.heap.size w (wr.alloc (.cells #[.int .i64 sn.f0, .int .i64 sn.f1] 35)) := below_alloc HB.out _
        have hOW := Kd.N_alloc HO.out (.cells #[.int .i64 sn.f0, .int .i64 sn.f1] 35)
        have hKW := blk_later HK.out (below_alloc (Below.refl _ _) (.cells #[.int .i64 sn.f0, .int .i64 sn.f1] 35))
        have hRW := below_alloc (Below.refl wr.heap.size wr) (.cells #[.int .i64 sn.f0, .int .i64 sn.f1] 35)
        have hZW : w.heap.size + 2 ≤ (wr.alloc (.cells #[.int .i64 sn.f0, .int .i64 sn.f1] 35)).heap.size := by simp; have := HZ.out; omega
        obtain ⟨W4, hW4⟩ : ∃ W4, W4 = (wr.alloc (.cells #[.int .i64 sn.f0, .int .i64 sn.f1] 35)).drew := ⟨_, rfl⟩
        replace hBW : Below w.heap.size w W4 := by rw [hW4]; exact below_drew hBW
        replace hOW := Kd.N_drew hOW
        replace hKW : W4.heap[w.heap.size + 1]? = some (.cells #[.bool b] 4 (0, 0)) := by rw [hW4]; exact hKW
        replace hRW : Below wr.heap.size wr W4 := by rw [hW4]; exact below_drew hRW
        replace hZW : w.heap.size + 2 ≤ W4.heap.size := by rw [hW4]; exact hZW
        rw [← hW4] at hOW
        have HBW := Aside0.mk hBW
        have HOW := Aside0.mk hOW
        have HKW := Aside0.mk hKW
        have HRW := Aside0.mk hRW
        have HZW := Aside0.mk hZW
        clear hBW hOW hKW hRW hZW HK HO HB
        refine start_ (n := 11) (S := fun w' => w'.cell? (ad.add i) = some (.slice A4 z.length c4') ∧ w'.cell? ⟨wr.heap.size, 0, none⟩ = some (.int .i64 sn.f0) ∧ w'.cell? ⟨wr.heap.size, 1, none⟩ = some (.int .i64 sn.f1)) (ds := [7, 8, 9]) #[false, false, false, false, false, false, false, false, false, false, false] (by kernel_rfl) rfl rfl ⟨hxA, hn0, hn1⟩ (fun hHeld => ?_)
        rw [← hW4] at hHeld ⊢
        clear hW4 hxA hn0 hn1
        refine pure_ (i := 0) (N := some 35) (v := ?_) (a' := ?_) #[true, false, false, false, false, false, false, false, false, false, false] rfl rfl (by kernel_rfl) (fun _ _ _ h => h) (Or.inl ⟨by rfl, ?_⟩) ?_ ?_
        rotate_left
        · intro w'
          go_simp
          with_reducible rfl
        rotate_left
        · simp only [Act.put, List.setIfInBounds_toArray, List.set_cons_zero, List.set_cons_succ, i64_w, i32_w]
          rfl
        refine pure_ (i := 1) (N := some 36) (v := ?_) (a' := ?_) #[true, true, false, false, false, false, false, false, false, false, false] rfl rfl (by kernel_rfl) (fun _ _ _ h => h) (Or.inl ⟨by rfl, ?_⟩) ?_ ?_
        rotate_left
        · intro w'
          go_simp
          with_reducible rfl
        rotate_left
        · simp only [Act.put, List.setIfInBounds_toArray, List.set_cons_zero, List.set_cons_succ, i64_w, i32_w]
          rfl
        refine pure_ (i := 2) (N := some 37) (v := ?_) (a' := ?_) #[true, true, true, false, false, false, false, false, false, false, false] rfl rfl (by kernel_rfl) (fun _ _ _ h => h) (Or.inl ⟨by rfl, ?_⟩) ?_ ?_
        rotate_left
        · intro w'
          go_simp
          with_reducible rfl
        rotate_left
        · simp only [Act.put, List.setIfInBounds_toArray, List.set_cons_zero, List.set_cons_succ, i64_w, i32_w]
          rfl
        refine pure_ (i := 3) (N := some 38) (v := ?_) (a' := ?_) #[true, true, true, true, false, false, false, false, false, false, false] rfl rfl (by kernel_rfl) (fun _ _ _ h => h) (Or.inl ⟨by rfl, ?_⟩) ?_ ?_
        rotate_left
        · intro w'
          go_simp
          with_reducible rfl
        rotate_left
        · simp only [Act.put, List.setIfInBounds_toArray, List.set_cons_zero, List.set_cons_succ, i64_w, i32_w]
          rfl
        refine pure_ (i := 4) (N := some 39) (v := ?_) (a' := ?_) #[true, true, true, true, true, false, false, false, false, false, false] rfl rfl (by kernel_rfl) (fun _ _ _ h => h) (Or.inl ⟨by rfl, ?_⟩) ?_ ?_
        rotate_left
        · intro w'
          go_simp
          with_reducible rfl
        rotate_left
        · simp only [Act.put, List.setIfInBounds_toArray, List.set_cons_zero, List.set_cons_succ, i64_w, i32_w]
          rfl
        refine take_ (i := 5) (N := some 40) (v := ?_) (a' := ?_) #[true, true, true, true, true, true, false, false, false, false, false] rfl rfl (by kernel_rfl) (fun _ _ _ h => h) (Or.inl ⟨by rfl, ?_⟩) hHeld ?_ ?_
        rotate_left
        · rintro w' ⟨s0, s1, s2⟩
          go_simp
          with_reducible rfl
        rotate_left
        · simp only [Act.put, List.setIfInBounds_toArray, List.set_cons_zero, List.set_cons_succ, i64_w, i32_w]
          rfl
        refine take_ (i := 6) (N := some 41) (v := ?_) (a' := ?_) #[true, true, true, true, true, true, true, false, false, false, false] rfl rfl (by kernel_rfl) (fun _ _ _ h => h) (Or.inl ⟨by rfl, ?_⟩) hHeld ?_ ?_
        rotate_left
        · rintro w' ⟨s0, s1, s2⟩
          go_simp
          with_reducible rfl
        rotate_left
        · simp only [Act.put, List.setIfInBounds_toArray, List.set_cons_zero, List.set_cons_succ, i64_w, i32_w]
          rfl
        refine last_ (i := 7) (N := some 42) #[true, true, true, true, true, true, true, true, false, false, false] rfl rfl (by kernel_rfl) (by decide) (fun K hK => ?_)
        refine goesT_ #[.pointer (some ⟨w.heap.size + 1, 0, none⟩)] #[.slice A4 z.length c4', .agg #[.int .i64 sn.f0, .int .i64 sn.f1], .pointer (some ⟨w.heap.size + 1, 0, none⟩)] Try.func49 (by kernel_rfl) rfl #[.slice A4 z.length c4', .agg #[.int .i64 sn.f0, .int .i64 sn.f1]] rfl (by rfl) rfl rfl (by rfl) (by simp only [List.map_toArray, List.map_cons, List.map_nil]; rfl) ?_
        with_reducible refine (cut49_no _ (w.heap.size + 1) b A4 c4' z sn.f0 sn.f1 HKW.out HV.out).mono ?_
        rintro e w3 ⟨rfl, rfl⟩
        refine ⟨_, rfl, ?_⟩
        skip
        refine hK.out _ _ ?_
        clear hK K
        refine norm_ (a' := ?_) ?_ ?_
        rotate_left
        · show Act.put _ (some 42) _ = _
          simp only [Act.put, List.setIfInBounds_toArray, List.set_cons_zero, List.set_cons_succ, i64_w, i32_w]
          rfl
        refine last_ (i := 8) (N := some 43) #[true, true, true, true, true, true, true, true, true, false, false] rfl rfl (by kernel_rfl) (by decide) (fun K hK => ?_)
        refine value_ (w1 := ?_) (v := ?_) (by rfl) rfl ?_ ?_
        rotate_left 2
        · go_simp
          constructor
          · rfl
          · rfl
        refine hK.out _ _ ?_
        clear hK K
        refine norm_ (a' := ?_) ?_ ?_
        rotate_left
        · show Act.put _ (some 43) _ = _
          simp only [Act.put, List.setIfInBounds_toArray, List.set_cons_zero, List.set_cons_succ, i64_w, i32_w]
          rfl
        refine last_ (i := 9) (N := some 44) #[true, true, true, true, true, true, true, true, true, true, false] rfl rfl (by kernel_rfl) (by decide) (fun K hK => ?_)
        refine Kd.N_append_step (Kd.slice 9 Kd.string) (w.heap.size + 2) (by rfl) (.tmp 35) (.tmp 43) 23 22 (.slice none 0 0) 24 rfl Try.underlying23 info22 rfl (by decide) (by omega) u12 (cutsL (sp.take i) (l2.take i)) ([] : List ByteArray) [.slice none 0 0] (fun k_ => (P2_ k_ ∧ k_ < w.heap.size) ∨ w.heap.size + 2 ≤ k_) (fun k_ => P2_ k_ ∧ k_ < w.heap.size) rfl ?_ ?_ ?_ ?_ ?_ (Below.refl _ _) ?_ ?_ ?_
        · show Value.slice (some ⟨W4.heap.size + 1, 0, none⟩) 1 1 = _; simp
        · exact Kd.FK_slice_mk (Nat.le_refl _) (Kd.F_nil _ _ _)
        · exact fun k hk => ⟨.inl hk, fun he => by have := Kd.N_base HOW.out k he.symm; have := hk.2; omega⟩
        · exact fun k hk => .inr (by simp at hk; have := HZW.out; omega)
        · exact Kd.N_alloc (Kd.N_far HOW.out (fun k hk => by show k ≠ w.heap.size + 1; rcases hk with hk | hk <;> omega) _) _
        · exact (by simp; have := HZW.out; omega)
        · have := HN.out; have := HLB.out; unfold cutsL; simp; omega
        intro v126 w17 ho hb hg hat
        have n1 := Aside0.mk ho
        have n2 := Aside0.mk hb
        have n3 := Aside0.mk (blk_grown (blk_later (blk_set HKW.out 0 _) (below_alloc (Below.refl _ _) _)) hg (fun he => by have := Kd.N_base HOW.out (w.heap.size + 1) he.symm; omega))
        have n4 := Aside0.mk (Below.trans (below_alloc (Below.setCell HBW.out (by show w.heap.size ≤ w.heap.size + 1; omega) _) _) (hb.mono (by omega)))
        have n5 := Aside0.mk (show w.heap.size + 2 ≤ w17.heap.size from by have hs := hb.size; simp at hs; have := HZW.out; omega)
        clear ho hb hg hat
        refine hK.out _ _ ?_
        clear hK K
        refine norm_ (a' := ?_) ?_ ?_
        rotate_left
        · show Act.put _ (some 44) _ = _
          simp only [Act.put, List.setIfInBounds_toArray, List.set_cons_zero, List.set_cons_succ, i64_w, i32_w]
          rfl
        refine pure_ (i := 10) (N := some 12) (v := ?_) (a' := ?_) #[true, true, true, true, true, true, true, true, true, true, true] rfl rfl (by kernel_rfl) (fun _ _ _ h => h) (Or.inl ⟨by rfl, ?_⟩) ?_ ?_
        rotate_left
        · intro w'
          go_simp
          with_reducible rfl
        rotate_left
        · simp only [Act.put, List.setIfInBounds_toArray, List.set_cons_zero, List.set_cons_succ, i64_w, i32_w]
          rfl
        refine done_ (by kernel_rfl) ?_

        go_wp2
        go_roundg (l2.length - (i + 1))
        case measure => have := HI.out; omega
        case rel => exact ⟨i + 1, false, by go_num, ⟨by omega, rfl⟩, ⟨by rw [HSB.out, ← HBV.out]; rw [HV.out, Bool.and_false]⟩, n3, ⟨by rw [HSN.out]; exact n1.out⟩, n4, n5⟩
    · have c5 : ¬ i < sp.length := by have := HL.out; omega
      have c4b0 : decide ((i : Int) < (sp.length : Int)) = false := decide_eq_false (by omega)
      have c4b1 : decide (i < sp.length) = false := decide_eq_false c5
      have HT := Aside0.mk (List.take_of_length_le (l := l2) (i := i) (by omega))
      have HT2 := Aside0.mk (List.take_of_length_le (l := sp) (i := i) (by omega))
      have hcell : wr.cell? ⟨w.heap.size + 1, 0, none⟩ = some (.bool b) := blk_cell HK.out 0
      clear c4 c5
      cases b with
      | true =>
        have HG : Aside0 (partsG f t sp l1 l2 = (cutL f t l1, cutsL sp l2, 0)) := ⟨by
          have := HBV.out
          rw [HT.out, HT2.out] at this
          unfold partsG
          rw [if_pos HL.out, HBB.out, ← this]; rfl⟩
        go_wp2
        repeat (go_quiet (fail); try go_wp2)
        go_ret3
        simp only [HG.out]
        refine ⟨_, _, rfl, Kd.V_step HV0.out (fun k hk _ => (HB.out.block k hk.2).trans (HB3.out.block k hk.2).symm), ?_, HB.out⟩
        have := HO.out
        rw [HT.out, HT2.out] at this
        exact Kd.N_mono (Kd.N_lower this (by omega)) (fun k hk => by rcases hk with hk | hk; exact .inl hk.1; exact .inr (by omega))
      | false =>
        have HG : Aside0 (partsG f t sp l1 l2 = ([], [], 3)) := ⟨by
          have := HBV.out
          rw [HT.out, HT2.out] at this
          unfold partsG
          rw [if_pos HL.out, HBB.out, ← this]; rfl⟩
        go_wp2
        repeat (go_quiet (fail); try go_wp2)
        go_ret3
        simp only [HG.out]
        exact ⟨_, _, rfl, Kd.V_nil _ _ _ _ _, Kd.N_nil _ _ _ _ _, HB.out⟩
end Go.Proofs.Ytiaoppikdgoieaa.M
