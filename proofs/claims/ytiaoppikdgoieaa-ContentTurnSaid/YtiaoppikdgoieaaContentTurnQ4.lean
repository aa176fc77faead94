/- Texts of the claim ContentTurn, put together (part 4): content.Parts: the loop. content.Parts: the loop, where the base's span is none of its places. content.Parts: what the code gives, as a Lean function, and that the machine's call does what it says. By a program of this session: a Go function as a Lean function, and that the machine's call does what it says. -/
import Derived.ArgAppend
import Derived.Below
import Derived.BigQuiet
import Derived.Deep.AppendLies
import Derived.Deep.CutBlock
import Derived.Deep.DeepCutAuto
import Derived.Deep.DrawnRows
import Derived.Deep.Draws
import Derived.Deep.LoopGhost
import Derived.Deep.OwnRows
import Derived.Deep.QuietTactic
import Derived.Deep.RegionHeld3
import Derived.KernelRfl
import Derived.Laws.BitsLemmas
import Derived.Laws.BytesArg
import Derived.Laws.IdiomCopy
import Derived.Laws.MakeOwn
import Derived.Laws.OwnMore
import Derived.Laws.Rows
import Derived.Laws.Slices
import Derived.Lib.AppendStr
import Derived.Lib.ConvBytes
import Derived.Maps.AppendAt
import Derived.OrdersHeld
import Derived.OwnWalk
import Derived.RowKit
import Derived.RowKit3
import Derived.Tactics
import Derived.Test.YtiaoppikdgoieaaProg
import Derived.Test.YtiaoppikdgoieaaWApart
import Derived.Test.YtiaoppikdgoieaaWArr
import Derived.Test.YtiaoppikdgoieaaWAt
import Derived.Test.YtiaoppikdgoieaaWEqStruct
import Derived.Test.YtiaoppikdgoieaaWFoot
import Derived.Test.YtiaoppikdgoieaaWFootNe
import Derived.Test.YtiaoppikdgoieaaWFour
import Derived.Test.YtiaoppikdgoieaaWGuard
import Derived.Test.YtiaoppikdgoieaaWInv
import Derived.Test.YtiaoppikdgoieaaWInvWords
import Derived.Test.YtiaoppikdgoieaaWKept
import Derived.Test.YtiaoppikdgoieaaWLast
import Derived.Test.YtiaoppikdgoieaaWMore
import Derived.Test.YtiaoppikdgoieaaWN
import Derived.Test.YtiaoppikdgoieaaWNEv
import Derived.Test.YtiaoppikdgoieaaWQPut
import Derived.Test.YtiaoppikdgoieaaWRepsOne
import Derived.Test.YtiaoppikdgoieaaWShare
import Derived.Test.YtiaoppikdgoieaaWTab
import Derived.Test.YtiaoppikdgoieaaWWords
import Derived.Test.YtiaoppikdgoieaaWZeros
import Derived.WalkKit
import Derived.WideLaws
import Derived.Test.YtiaoppikdgoieaaContentTurnQ3
namespace Go.Proofs.Ytiaoppikdgoieaa.M
open Go.RowKit Go.Proofs.YtiaoppikdgoieaaW.PrintWords Go.Proofs.YtiaoppikdgoieaaW.PrintLast Go.Proofs.YtiaoppikdgoieaaW.PrintMore Go.Proofs.Ytiaoppikdgoieaa.Hand
set_option linter.unusedVariables false
set_option linter.unusedSimpArgs false

/-- What content.Parts tells: texts, and the fault's number. -/
def partsG (f t : Int) (sp : List S35) (b : List ByteArray) (l : List (List ByteArray)) : List ByteArray × List (List ByteArray) × Int :=
  if sp.length = l.length then (if (spanB f t b.length && spansB sp l) = true then (cutL f t b, cutsL sp l, 0) else ([], [], 3)) else ([], [], 1)

set_option maxHeartbeats 4000000 in
set_option maxRecDepth 100000 in
theorem parts26_yes (a0 : Bool) (f t : Int) (A0 : Option Addr) (c0 : Nat) (sp : List S35) (P1_ : Nat → Prop) (A1 : Option Addr) (c1 : Nat) (l1 : List ByteArray) (P2_ : Nat → Prop) (A2 : Option Addr) (c2 : Nat) (l2 : List (List ByteArray)) (w : World)
    (hr0 : Kd.C k35 w A0 sp.length sp) (hc0 : sp.length ≤ c0) (hs1 : Kd.V Kd.string 9 w w.heap.size (fun k_ => P1_ k_) (.slice A1 l1.length c1) l1) (hs2 : Kd.V (Kd.slice 9 Kd.string) 22 w w.heap.size (fun k_ => P2_ k_) (.slice A2 l2.length c2) l2)
    (hlen : sp.length = l2.length) (hbig : l2.length ≤ 5864062014805) (hb : spanB f t l1.length = true) :
    Calls Try.prog 26 #[.agg #[.bool a0, .int .i64 f, .int .i64 t, .slice A0 sp.length c0], .slice A1 l1.length c1, .slice A2 l2.length c2] w fun e w' => ∃ v0_ v1_ : Value, e = .returned (.tuple #[v0_, v1_, .int .i64 (partsG f t sp l1 l2).2.2]) ∧ Kd.V Kd.string 9 w' w.heap.size (fun k_ => P1_ k_ ∧ k_ < w.heap.size) v0_ (partsG f t sp l1 l2).1 ∧ Kd.N (Kd.slice 9 Kd.string) 22 w' w.heap.size (fun k_ => (P2_ k_ ∨ w.heap.size ≤ k_)) v1_ (partsG f t sp l1 l2).2.1 ∧ Below w.heap.size w w' := by
  have HR0 := Aside0.mk hr0
  have HC0 := Aside0.mk hc0
  have HS1 := Aside0.mk hs1
  have HS2 := Aside0.mk hs2
  have HL := Aside0.mk hlen
  have HLE := Aside0.mk hr0.2.1
  have HBB := Aside0.mk hb
  have HLB := Aside0.mk hbig
  have hn1 : ((sp.length : Int) != (l2.length : Int)) = false := bne_eq_false_iff_eq.mpr (by omega)
  have hn2 : (sp.length != l2.length) = false := bne_eq_false_iff_eq.mpr hlen
  clear hr0 hc0 hs1 hs2 hlen hb hbig
  go_enter Try.func26, Try.ntmps26
  go_wp2_with (go_at_call 49; (with_reducible refine (cut49_yes _ _ A1 c1 l1 f t w.heap.size (fun k_ => P1_ k_ ∧ k_ < w.heap.size) (Kd.V_below (Kd.V_bound HS1.out) (by repeat (first | exact Below.refl _ _ | apply below_alloc | apply pw_below_drewN))) HBB.out).mono ?_); rintro e w' ⟨v0, rfl, hv0, rfl⟩; have HV0 := Aside0.mk hv0; clear hv0)
  obtain ⟨w3, hw3⟩ : ∃ w3, w3 = ((w.alloc (.cells #[.bool a0, .int .i64 f, .int .i64 t, .slice A0 sp.length c0] 38)).alloc (.cells #[.bool true] 4)).alloc (.cells #[.int .i64 f, .int .i64 t] 35) := ⟨_, rfl⟩
  have hB3 : Below w.heap.size w w3 := by rw [hw3]; repeat (first | exact Below.refl _ _ | apply below_alloc)
  have hK3 : w3.heap[w.heap.size + 1]? = some (.cells #[.bool true] 4 (0, 0)) := by
    rw [hw3]
    refine blk_later (w := (w.alloc (.cells #[.bool a0, .int .i64 f, .int .i64 t, .slice A0 sp.length c0] 38)).alloc (.cells #[.bool true] 4)) ?_ (by repeat (first | exact Below.refl _ _ | apply below_alloc))
    have := Go.heap_alloc_new (w.alloc (.cells #[.bool a0, .int .i64 f, .int .i64 t, .slice A0 sp.length c0] 38)) (.cells #[.bool true] 4)
    simpa using this
  have hz3 : w.heap.size + 2 ≤ w3.heap.size := by rw [hw3]; simp
  rw [← hw3] at HV0 ⊢
  have HB3 := Aside0.mk hB3
  have HK3 := Aside0.mk hK3
  have HZ3 := Aside0.mk hz3
  clear hw3 hB3 hK3 hz3
  go_loopg [12, 30] l2.length (fun kq v12 v30 wr => ∃ (i : Nat) (b : Bool), v30 = .int .i64 (i : Int) ∧ Aside0 (i ≤ l2.length ∧ kq = l2.length - i) ∧ Aside0 (b = spansB (sp.take i) (l2.take i)) ∧ Aside0 (wr.heap[w.heap.size + 1]? = some (.cells #[.bool b] 4 (0, 0))) ∧
    Aside0 (Kd.N (Kd.slice 9 Kd.string) 22 wr (w.heap.size + 2) (fun k_ => (P2_ k_ ∧ k_ < w.heap.size) ∨ w.heap.size + 2 ≤ k_) v12 (cutsL (sp.take i) (l2.take i))) ∧ Aside0 (Below w.heap.size w wr) ∧ Aside0 (w.heap.size + 2 ≤ wr.heap.size))
  case atStart => exact ⟨0, true, rfl, ⟨Nat.zero_le _, rfl⟩, ⟨by simp [spansB]⟩, HK3, ⟨Kd.N_nil _ _ _ _ _⟩, HB3, HZ3⟩
  case round =>
    obtain ⟨i, b, rfl, HI, HBV, HK, HO, HB, HZ⟩ := hrel
    have hli := HLE.out
    by_cases c4 : i < l2.length
    · have c5 : i < sp.length := by have := HL.out; omega
      have c4b0 : decide ((i : Int) < (sp.length : Int)) = true := decide_eq_true (by omega)
      have c4b1 : decide (i < sp.length) = true := decide_eq_true c5
      have c4b2 : decide (i < l2.length) = true := decide_eq_true c4
      obtain ⟨z, g0⟩ : ∃ z, l2[i]? = some z := ⟨_, List.getElem?_eq_getElem c4⟩
      obtain ⟨sn, g1⟩ : ∃ sn, sp[i]? = some sn := ⟨_, List.getElem?_eq_getElem c5⟩
      have hV2 := Kd.V_below (Kd.V_bound HS2.out) HB.out
      obtain ⟨ad, A4, c4', rfl, hx, hl4, hi4, hf4⟩ := V_row hV2 i z g0
      obtain ⟨ap, rfl, hs1, hs2⟩ := C_span (Kd.C_below HR0.out HB.out) i sn g1
      have HSN := Aside0.mk (cutsL_snoc sp l2 i sn z g1 g0)
      have HSB := Aside0.mk (spansB_snoc sp l2 i sn z g1 g0)
      have HC4 := Aside0.mk hl4
      have HF4 := Aside0.mk hf4
      have HN := Aside0.mk c4
      clear hl4 hf4 hi4 g0 g1 hV2
      have bi : (i : Int) < 9223372036854775807 := by omega
      have hxA : (wr.alloc (.cells #[.int .i64 sn.f0, .int .i64 sn.f1] 35)).cell? (ad.add i) = some (.slice A4 z.length c4') := pw_cell_below (below_alloc (Below.refl _ _) _) hx
      have hn0 : (wr.alloc (.cells #[.int .i64 sn.f0, .int .i64 sn.f1] 35)).cell? ⟨wr.heap.size, 0, none⟩ = some (.int .i64 sn.f0) := blk_cell (Go.heap_alloc_new wr _) 0
      have hn1 : (wr.alloc (.cells #[.int .i64 sn.f0, .int .i64 sn.f1] 35)).cell? ⟨wr.heap.size, 1, none⟩ = some (.int .i64 sn.f1) := blk_cell (Go.heap_alloc_new wr _) 1
      by_cases hv : spanB sn.f0 sn.f1 z.length = true
      · have HV := Aside0.mk hv
        clear hv
        go_wp2_with fail
        have hBW : Below w.heap.size w (wr.alloc (.cells #[.int .i64 sn.f0, .int .i64 sn.f1] 35)) := below_alloc HB.out _
        have hOW := Kd.N_alloc HO.out (.cells #[.int .i64 sn.f0, .int .i64 sn.f1] 35)
        have hKW := blk_later HK.out (below_alloc (Below.refl _ _) (.cells #[.int .i64 sn.f0, .int .i64 sn.f1] 35))
        have hRW := below_alloc (Below.refl wr.heap.size wr) (.cells #[.int .i64 sn.f0, .int .i64 sn.f1] 35)
        have hZW : w.heap.size + 2 ≤ (wr.alloc (.cells #[.int .i64 sn.f0, .int .i64 sn.f1] 35)).heap.size := by simp; have := HZ.out; omega
        obtain ⟨W4, hW4⟩ : ∃ W4, W4 = (wr.alloc (.cells #[.int .i64 sn.f0, .int .i64 sn.f1] 35)).drew := ⟨_, rfl⟩
        replace hBW : Below w.heap.size w W4 := by rw [hW4]; exact below_drew hBW
        replace hOW := Kd.N_drew hOW
        replace hKW : W4.heap[w.heap.size + 1]? = some (.cells #[.bool b] 4 (0, 0)) := by rw [hW4]; exact hKW
        replace hRW : Below wr.heap.size wr W4 := by rw [hW4]; exact below_drew hRW
        replace hZW : w.heap.size + 2 ≤ W4.heap.size := by rw [hW4]; exact hZW
        rw [← hW4] at hOW
        have HBW := Aside0.mk hBW
        have HOW := Aside0.mk hOW
        have HKW := Aside0.mk hKW
        have HRW := Aside0.mk hRW
        have HZW := Aside0.mk hZW
        clear hBW hOW hKW hRW hZW HK HO HB
        refine start_ (n := 11) (S := fun w' => w'.cell? (ad.add i) = some (.slice A4 z.length c4') ∧ w'.cell? ⟨wr.heap.size, 0, none⟩ = some (.int .i64 sn.f0) ∧ w'.cell? ⟨wr.heap.size, 1, none⟩ = some (.int .i64 sn.f1)) (ds := [7, 8, 9]) #[false, false, false, false, false, false, false, false, false, false, false] (by kernel_rfl) rfl rfl ⟨hxA, hn0, hn1⟩ (fun hHeld => ?_)
        rw [← hW4] at hHeld ⊢
        clear hW4 hxA hn0 hn1
        refine pure_ (i := 0) (N := some 35) (v := ?_) (a' := ?_) #[true, false, false, false, false, false, false, false, false, false, false] rfl rfl (by kernel_rfl) (fun _ _ _ h => h) (Or.inl ⟨by rfl, ?_⟩) ?_ ?_
        rotate_left
        · intro w'
          go_simp
          with_reducible rfl
        rotate_left
        · simp only [Act.put, List.setIfInBounds_toArray, List.set_cons_zero, List.set_cons_succ, i64_w, i32_w]
          rfl
        refine pure_ (i := 1) (N := some 36) (v := ?_) (a' := ?_) #[true, true, false, false, false, false, false, false, false, false, false] rfl rfl (by kernel_rfl) (fun _ _ _ h => h) (Or.inl ⟨by rfl, ?_⟩) ?_ ?_
        rotate_left
        · intro w'
          go_simp
          with_reducible rfl
        rotate_left
        · simp only [Act.put, List.setIfInBounds_toArray, List.set_cons_zero, List.set_cons_succ, i64_w, i32_w]
          rfl
        refine pure_ (i := 2) (N := some 37) (v := ?_) (a' := ?_) #[true, true, true, false, false, false, false, false, false, false, false] rfl rfl (by kernel_rfl) (fun _ _ _ h => h) (Or.inl ⟨by rfl, ?_⟩) ?_ ?_
        rotate_left
        · intro w'
          go_simp
          with_reducible rfl
        rotate_left
        · simp only [Act.put, List.setIfInBounds_toArray, List.set_cons_zero, List.set_cons_succ, i64_w, i32_w]
          rfl
        refine pure_ (i := 3) (N := some 38) (v := ?_) (a' := ?_) #[true, true, true, true, false, false, false, false, false, false, false] rfl rfl (by kernel_rfl) (fun _ _ _ h => h) (Or.inl ⟨by rfl, ?_⟩) ?_ ?_
        rotate_left
        · intro w'
          go_simp
          with_reducible rfl
        rotate_left
        · simp only [Act.put, List.setIfInBounds_toArray, List.set_cons_zero, List.set_cons_succ, i64_w, i32_w]
          rfl
        refine pure_ (i := 4) (N := some 39) (v := ?_) (a' := ?_) #[true, true, true, true, true, false, false, false, false, false, false] rfl rfl (by kernel_rfl) (fun _ _ _ h => h) (Or.inl ⟨by rfl, ?_⟩) ?_ ?_
        rotate_left
        · intro w'
          go_simp
          with_reducible rfl
        rotate_left
        · simp only [Act.put, List.setIfInBounds_toArray, List.set_cons_zero, List.set_cons_succ, i64_w, i32_w]
          rfl
        refine take_ (i := 5) (N := some 40) (v := ?_) (a' := ?_) #[true, true, true, true, true, true, false, false, false, false, false] rfl rfl (by kernel_rfl) (fun _ _ _ h => h) (Or.inl ⟨by rfl, ?_⟩) hHeld ?_ ?_
        rotate_left
        · rintro w' ⟨s0, s1, s2⟩
          go_simp
          with_reducible rfl
        rotate_left
        · simp only [Act.put, List.setIfInBounds_toArray, List.set_cons_zero, List.set_cons_succ, i64_w, i32_w]
          rfl
        refine take_ (i := 6) (N := some 41) (v := ?_) (a' := ?_) #[true, true, true, true, true, true, true, false, false, false, false] rfl rfl (by kernel_rfl) (fun _ _ _ h => h) (Or.inl ⟨by rfl, ?_⟩) hHeld ?_ ?_
        rotate_left
        · rintro w' ⟨s0, s1, s2⟩
          go_simp
          with_reducible rfl
        rotate_left
        · simp only [Act.put, List.setIfInBounds_toArray, List.set_cons_zero, List.set_cons_succ, i64_w, i32_w]
          rfl
        refine last_ (i := 7) (N := some 42) #[true, true, true, true, true, true, true, true, false, false, false] rfl rfl (by kernel_rfl) (by decide) (fun K hK => ?_)
        refine goesT_ #[.pointer (some ⟨w.heap.size + 1, 0, none⟩)] #[.slice A4 z.length c4', .agg #[.int .i64 sn.f0, .int .i64 sn.f1], .pointer (some ⟨w.heap.size + 1, 0, none⟩)] Try.func49 (by kernel_rfl) rfl #[.slice A4 z.length c4', .agg #[.int .i64 sn.f0, .int .i64 sn.f1]] rfl (by rfl) rfl rfl (by rfl) (by simp only [List.map_toArray, List.map_cons, List.map_nil]; rfl) ?_
        with_reducible refine (cut49_yes _ (w.heap.size + 1) A4 c4' z sn.f0 sn.f1 w.heap.size (fun k_ => P2_ k_ ∧ k_ < w.heap.size) ?hs HV.out).mono ?_
        case hs => exact Kd.V_mk HC4.out (Kd.F_below HF4.out HRW.out)
        rintro e w3 ⟨v, rfl, hv, rfl⟩
        refine ⟨_, rfl, ?_⟩
        obtain ⟨A5, c5x, rfl, hl5, hF5⟩ := hv
        have HL5 := Aside0.mk hl5
        have HF5 := Aside0.mk hF5
        clear hl5 hF5
        refine hK.out _ _ ?_
        clear hK K
        refine norm_ (a' := ?_) ?_ ?_
        rotate_left
        · show Act.put _ (some 42) _ = _
          simp only [Act.put, List.setIfInBounds_toArray, List.set_cons_zero, List.set_cons_succ, i64_w, i32_w]
          rfl
        refine last_ (i := 8) (N := some 43) #[true, true, true, true, true, true, true, true, true, false, false] rfl rfl (by kernel_rfl) (by decide) (fun K hK => ?_)
        refine value_ (w1 := ?_) (v := ?_) (by rfl) rfl ?_ ?_
        rotate_left 2
        · go_simp
          constructor
          · rfl
          · rfl
        refine hK.out _ _ ?_
        clear hK K
        refine norm_ (a' := ?_) ?_ ?_
        rotate_left
        · show Act.put _ (some 43) _ = _
          simp only [Act.put, List.setIfInBounds_toArray, List.set_cons_zero, List.set_cons_succ, i64_w, i32_w]
          rfl
        refine last_ (i := 9) (N := some 44) #[true, true, true, true, true, true, true, true, true, true, false] rfl rfl (by kernel_rfl) (by decide) (fun K hK => ?_)
        refine Kd.N_append_step (Kd.slice 9 Kd.string) (w.heap.size + 2) (by rfl) (.tmp 35) (.tmp 43) 23 22 (.slice none 0 0) 24 rfl Try.underlying23 info22 rfl (by decide) (by omega) u12 (cutsL (sp.take i) (l2.take i)) (cutL sn.f0 sn.f1 z) [.slice A5 (cutL sn.f0 sn.f1 z).length c5x] (fun k_ => (P2_ k_ ∧ k_ < w.heap.size) ∨ w.heap.size + 2 ≤ k_) (fun k_ => P2_ k_ ∧ k_ < w.heap.size) rfl ?_ ?_ ?_ ?_ ?_ (Below.refl _ _) ?_ ?_ ?_
        · show Value.slice (some ⟨W4.heap.size + 1, 0, none⟩) 1 1 = _; simp
        · exact Kd.FK_slice_mk HL5.out HF5.out
        · exact fun k hk => ⟨.inl hk, fun he => by have := Kd.N_base HOW.out k he.symm; have := hk.2; omega⟩
        · exact fun k hk => .inr (by simp at hk; have := HZW.out; omega)
        · exact Kd.N_alloc HOW.out _
        · exact (by simp; have := HZW.out; omega)
        · have := HN.out; have := HLB.out; unfold cutsL; simp; omega
        intro v126 w17 ho hb hg hat
        have n1 := Aside0.mk ho
        have n2 := Aside0.mk hb
        have n3 := Aside0.mk (blk_grown (blk_later HKW.out (below_alloc (Below.refl _ _) _)) hg (fun he => by have := Kd.N_base HOW.out (w.heap.size + 1) he.symm; omega))
        have n4 := Aside0.mk (Below.trans (below_alloc HBW.out _) (hb.mono (by omega)))
        have n5 := Aside0.mk (show w.heap.size + 2 ≤ w17.heap.size from by have hs := hb.size; simp at hs; have := HZW.out; omega)
        clear ho hb hg hat
        refine hK.out _ _ ?_
        clear hK K
        refine norm_ (a' := ?_) ?_ ?_
        rotate_left
        · show Act.put _ (some 44) _ = _
          simp only [Act.put, List.setIfInBounds_toArray, List.set_cons_zero, List.set_cons_succ, i64_w, i32_w]
          rfl
        refine pure_ (i := 10) (N := some 12) (v := ?_) (a' := ?_) #[true, true, true, true, true, true, true, true, true, true, true] rfl rfl (by kernel_rfl) (fun _ _ _ h => h) (Or.inl ⟨by rfl, ?_⟩) ?_ ?_
        rotate_left
        · intro w'
          go_simp
          with_reducible rfl
        rotate_left
        · simp only [Act.put, List.setIfInBounds_toArray, List.set_cons_zero, List.set_cons_succ, i64_w, i32_w]
          rfl
        refine done_ (by kernel_rfl) ?_

        go_wp2
        go_roundg (l2.length - (i + 1))
        case measure => have := HI.out; omega
        case rel => exact ⟨i + 1, b, by go_num, ⟨by omega, rfl⟩, ⟨by rw [HSB.out, ← HBV.out]; rw [HV.out, Bool.and_true]⟩, n3, ⟨by rw [HSN.out]; exact n1.out⟩, n4, n5⟩
      · have HV := Aside0.mk (Bool.eq_false_iff.mpr hv)
        have HCN : Aside0 (cutL sn.f0 sn.f1 z = []) := ⟨by unfold cutL; rw [if_neg hv]⟩
        rw [HCN.out] at HSN
        clear hv
        go_wp2_with fail
        have hBW : Below w.heap.size w (wr.alloc (.cells #[.int .i64 sn.f0, .int .i64 sn.f1] 35)) := below_alloc HB.out _
        have hOW := Kd.N_alloc HO.out (.cells #[.int .i64 sn.f0, .int .i64 sn.f1] 35)
        have hKW := blk_later HK.out (below_alloc (Below.refl _ _) (.cells #[.int .i64 sn.f0, .int .i64 sn.f1] 35))
        have hRW := below_alloc (Below.refl wr.heap.size wr) (.cells #[.int .i64 sn.f0, .int .i64 sn.f1] 35)
        have hZW : w.heap.size + 2 ≤ (wr.alloc (.cells #[.int .i64 sn.f0, .int .i64 sn.f1] 35)).heap.size := by simp; have := HZ.out; omega
        obtain ⟨W4, hW4⟩ : ∃ W4, W4 = (wr.alloc (.cells #[.int .i64 sn.f0, .int .i64 sn.f1] 35)).drew := ⟨_, rfl⟩
        replace hBW : Below w.heap.size w W4 := by rw [hW4]; exact below_drew hBW
        replace hOW := Kd.N_drew hOW
        replace hKW : W4.heap[w.heap.size + 1]? = some (.cells #[.bool b] 4 (0, 0)) := by rw [hW4]; exact hKW
        replace hRW : Below wr.heap.size wr W4 := by rw [hW4]; exact below_drew hRW
        replace hZW : w.heap.size + 2 ≤ W4.heap.size := by rw [hW4]; exact hZW
        rw [← hW4] at hOW
        have HBW := Aside0.mk hBW
        have HOW := Aside0.mk hOW
        have HKW := Aside0.mk hKW
        have HRW := Aside0.mk hRW
        have HZW := Aside0.mk hZW
        clear hBW hOW hKW hRW hZW HK HO HB
        refine start_ (n := 11) (S := fun w' => w'.cell? (ad.add i) = some (.slice A4 z.length c4') ∧ w'.cell? ⟨wr.heap.size, 0, none⟩ = some (.int .i64 sn.f0) ∧ w'.cell? ⟨wr.heap.size, 1, none⟩ = some (.int .i64 sn.f1)) (ds := [7, 8, 9]) #[false, false, false, false, false, false, false, false, false, false, false] (by kernel_rfl) rfl rfl ⟨hxA, hn0, hn1⟩ (fun hHeld => ?_)
        rw [← hW4] at hHeld ⊢
        clear hW4 hxA hn0 hn1
        refine pure_ (i := 0) (N := some 35) (v := ?_) (a' := ?_) #[true, false, false, false, false, false, false, false, false, false, false] rfl rfl (by kernel_rfl) (fun _ _ _ h => h) (Or.inl ⟨by rfl, ?_⟩) ?_ ?_
        rotate_left
        · intro w'
          go_simp
          with_reducible rfl
        rotate_left
        · simp only [Act.put, List.setIfInBounds_toArray, List.set_cons_zero, List.set_cons_succ, i64_w, i32_w]
          rfl
        refine pure_ (i := 1) (N := some 36) (v := ?_) (a' := ?_) #[true, true, false, false, false, false, false, false, false, false, false] rfl rfl (by kernel_rfl) (fun _ _ _ h => h) (Or.inl ⟨by rfl, ?_⟩) ?_ ?_
        rotate_left
        · intro w'
          go_simp
          with_reducible rfl
        rotate_left
        · simp only [Act.put, List.setIfInBounds_toArray, List.set_cons_zero, List.set_cons_succ, i64_w, i32_w]
          rfl
        refine pure_ (i := 2) (N := some 37) (v := ?_) (a' := ?_) #[true, true, true, false, false, false, false, false, false, false, false] rfl rfl (by kernel_rfl) (fun _ _ _ h => h) (Or.inl ⟨by rfl, ?_⟩) ?_ ?_
        rotate_left
        · intro w'
          go_simp
          with_reducible rfl
        rotate_left
        · simp only [Act.put, List.setIfInBounds_toArray, List.set_cons_zero, List.set_cons_succ, i64_w, i32_w]
          rfl
        refine pure_ (i := 3) (N := some 38) (v := ?_) (a' := ?_) #[true, true, true, true, false, false, false, false, false, false, false] rfl rfl (by kernel_rfl) (fun _ _ _ h => h) (Or.inl ⟨by rfl, ?_⟩) ?_ ?_
        rotate_left
        · intro w'
          go_simp
          with_reducible rfl
        rotate_left
        · simp only [Act.put, List.setIfInBounds_toArray, List.set_cons_zero, List.set_cons_succ, i64_w, i32_w]
          rfl
        refine pure_ (i := 4) (N := some 39) (v := ?_) (a' := ?_) #[true, true, true, true, true, false, false, false, false, false, false] rfl rfl (by kernel_rfl) (fun _ _ _ h => h) (Or.inl ⟨by rfl, ?_⟩) ?_ ?_
        rotate_left
        · intro w'
          go_simp
          with_reducible rfl
        rotate_left
        · simp only [Act.put, List.setIfInBounds_toArray, List.set_cons_zero, List.set_cons_succ, i64_w, i32_w]
          rfl
        refine take_ (i := 5) (N := some 40) (v := ?_) (a' := ?_) #[true, true, true, true, true, true, false, false, false, false, false] rfl rfl (by kernel_rfl) (fun _ _ _ h => h) (Or.inl ⟨by rfl, ?_⟩) hHeld ?_ ?_
        rotate_left
        · rintro w' ⟨s0, s1, s2⟩
          go_simp
          with_reducible rfl
        rotate_left
        · simp only [Act.put, List.setIfInBounds_toArray, List.set_cons_zero, List.set_cons_succ, i64_w, i32_w]
          rfl
        refine take_ (i := 6) (N := some 41) (v := ?_) (a' := ?_) #[true, true, true, true, true, true, true, false, false, false, false] rfl rfl (by kernel_rfl) (fun _ _ _ h => h) (Or.inl ⟨by rfl, ?_⟩) hHeld ?_ ?_
        rotate_left
        · rintro w' ⟨s0, s1, s2⟩
          go_simp
          with_reducible rfl
        rotate_left
        · simp only [Act.put, List.setIfInBounds_toArray, List.set_cons_zero, List.set_cons_succ, i64_w, i32_w]
          rfl
        refine last_ (i := 7) (N := some 42) #[true, true, true, true, true, true, true, true, false, false, false] rfl rfl (by kernel_rfl) (by decide) (fun K hK => ?_)
        refine goesT_ #[.pointer (some ⟨w.heap.size + 1, 0, none⟩)] #[.slice A4 z.length c4', .agg #[.int .i64 sn.f0, .int .i64 sn.f1], .pointer (some ⟨w.heap.size + 1, 0, none⟩)] Try.func49 (by kernel_rfl) rfl #[.slice A4 z.length c4', .agg #[.int .i64 sn.f0, .int .i64 sn.f1]] rfl (by rfl) rfl rfl (by rfl) (by simp only [List.map_toArray, List.map_cons, List.map_nil]; rfl) ?_
        with_reducible refine (cut49_no _ (w.heap.size + 1) b A4 c4' z sn.f0 sn.f1 HKW.out HV.out).mono ?_
        rintro e w3 ⟨rfl, rfl⟩
        refine ⟨_, rfl, ?_⟩
        skip
        refine hK.out _ _ ?_
        clear hK K
        refine norm_ (a' := ?_) ?_ ?_
        rotate_left
        · show Act.put _ (some 42) _ = _
          simp only [Act.put, List.setIfInBounds_toArray, List.set_cons_zero, List.set_cons_succ, i64_w, i32_w]
          rfl
        refine last_ (i := 8) (N := some 43) #[true, true, true, true, true, true, true, true, true, false, false] rfl rfl (by kernel_rfl) (by decide) (fun K hK => ?_)
        refine value_ (w1 := ?_) (v := ?_) (by rfl) rfl ?_ ?_
        rotate_left 2
        · go_simp
          constructor
          · rfl
          · rfl
        refine hK.out _ _ ?_
        clear hK K
        refine norm_ (a' := ?_) ?_ ?_
        rotate_left
        · show Act.put _ (some 43) _ = _
          simp only [Act.put, List.setIfInBounds_toArray, List.set_cons_zero, List.set_cons_succ, i64_w, i32_w]
          rfl
        refine last_ (i := 9) (N := some 44) #[true, true, true, true, true, true, true, true, true, true, false] rfl rfl (by kernel_rfl) (by decide) (fun K hK => ?_)
        refine Kd.N_append_step (Kd.slice 9 Kd.string) (w.heap.size + 2) (by rfl) (.tmp 35) (.tmp 43) 23 22 (.slice none 0 0) 24 rfl Try.underlying23 info22 rfl (by decide) (by omega) u12 (cutsL (sp.take i) (l2.take i)) ([] : List ByteArray) [.slice none 0 0] (fun k_ => (P2_ k_ ∧ k_ < w.heap.size) ∨ w.heap.size + 2 ≤ k_) (fun k_ => P2_ k_ ∧ k_ < w.heap.size) rfl ?_ ?_ ?_ ?_ ?_ (Below.refl _ _) ?_ ?_ ?_
        · show Value.slice (some ⟨W4.heap.size + 1, 0, none⟩) 1 1 = _; simp
        · exact Kd.FK_slice_mk (Nat.le_refl _) (Kd.F_nil _ _ _)
        · exact fun k hk => ⟨.inl hk, fun he => by have := Kd.N_base HOW.out k he.symm; have := hk.2; omega⟩
        · exact fun k hk => .inr (by simp at hk; have := HZW.out; omega)
        · exact Kd.N_alloc (Kd.N_far HOW.out (fun k hk => by show k ≠ w.heap.size + 1; rcases hk with hk | hk <;> omega) _) _
        · exact (by simp; have := HZW.out; omega)
        · have := HN.out; have := HLB.out; unfold cutsL; simp; omega
        intro v126 w17 ho hb hg hat
        have n1 := Aside0.mk ho
        have n2 := Aside0.mk hb
        have n3 := Aside0.mk (blk_grown (blk_later (blk_set HKW.out 0 _) (below_alloc (Below.refl _ _) _)) hg (fun he => by have := Kd.N_base HOW.out (w.heap.size + 1) he.symm; omega))
        have n4 := Aside0.mk (Below.trans (below_alloc (Below.setCell HBW.out (by show w.heap.size ≤ w.heap.size + 1; omega) _) _) (hb.mono (by omega)))
        have n5 := Aside0.mk (show w.heap.size + 2 ≤ w17.heap.size from by have hs := hb.size; simp at hs; have := HZW.out; omega)
        clear ho hb hg hat
        refine hK.out _ _ ?_
        clear hK K
        refine norm_ (a' := ?_) ?_ ?_
        rotate_left
        · show Act.put _ (some 44) _ = _
          simp only [Act.put, List.setIfInBounds_toArray, List.set_cons_zero, List.set_cons_succ, i64_w, i32_w]
          rfl
        refine pure_ (i := 10) (N := some 12) (v := ?_) (a' := ?_) #[true, true, true, true, true, true, true, true, true, true, true] rfl rfl (by kernel_rfl) (fun _ _ _ h => h) (Or.inl ⟨by rfl, ?_⟩) ?_ ?_
        rotate_left
        · intro w'
          go_simp
          with_reducible rfl
        rotate_left
        · simp only [Act.put, List.setIfInBounds_toArray, List.set_cons_zero, List.set_cons_succ, i64_w, i32_w]
          rfl
        refine done_ (by kernel_rfl) ?_

        go_wp2
        go_roundg (l2.length - (i + 1))
        case measure => have := HI.out; omega
        case rel => exact ⟨i + 1, false, by go_num, ⟨by omega, rfl⟩, ⟨by rw [HSB.out, ← HBV.out]; rw [HV.out, Bool.and_false]⟩, n3, ⟨by rw [HSN.out]; exact n1.out⟩, n4, n5⟩
    · have c5 : ¬ i < sp.length := by have := HL.out; omega
      have c4b0 : decide ((i : Int) < (sp.length : Int)) = false := decide_eq_false (by omega)
      have c4b1 : decide (i < sp.length) = false := decide_eq_false c5
      have HT := Aside0.mk (List.take_of_length_le (l := l2) (i := i) (by omega))
      have HT2 := Aside0.mk (List.take_of_length_le (l := sp) (i := i) (by omega))
      have hcell : wr.cell? ⟨w.heap.size + 1, 0, none⟩ = some (.bool b) := blk_cell HK.out 0
      clear c4 c5
      cases b with
      | true =>
        have HG : Aside0 (partsG f t sp l1 l2 = (cutL f t l1, cutsL sp l2, 0)) := ⟨by
          have := HBV.out
          rw [HT.out, HT2.out] at this
          unfold partsG
          rw [if_pos HL.out, HBB.out, ← this]; rfl⟩
        go_wp2
        repeat (go_quiet (fail); try go_wp2)
        go_ret3
        simp only [HG.out]
        refine ⟨_, _, rfl, Kd.V_step HV0.out (fun k hk _ => (HB.out.block k hk.2).trans (HB3.out.block k hk.2).symm), ?_, HB.out⟩
        have := HO.out
        rw [HT.out, HT2.out] at this
        exact Kd.N_mono (Kd.N_lower this (by omega)) (fun k hk => by rcases hk with hk | hk; exact .inl hk.1; exact .inr (by omega))
      | false =>
        have HG : Aside0 (partsG f t sp l1 l2 = ([], [], 3)) := ⟨by
          have := HBV.out
          rw [HT.out, HT2.out] at this
          unfold partsG
          rw [if_pos HL.out, HBB.out, ← this]; rfl⟩
        go_wp2
        repeat (go_quiet (fail); try go_wp2)
        go_ret3
        simp only [HG.out]
        exact ⟨_, _, rfl, Kd.V_nil _ _ _ _ _, Kd.N_nil _ _ _ _ _, HB.out⟩
end Go.Proofs.Ytiaoppikdgoieaa.M
namespace Go.Proofs.Ytiaoppikdgoieaa.M
open Go.RowKit Go.Proofs.YtiaoppikdgoieaaW.PrintWords Go.Proofs.YtiaoppikdgoieaaW.PrintLast Go.Proofs.YtiaoppikdgoieaaW.PrintMore Go.Proofs.Ytiaoppikdgoieaa.Hand
set_option linter.unusedVariables false
set_option linter.unusedSimpArgs false

set_option maxHeartbeats 4000000 in
set_option maxRecDepth 100000 in
theorem parts26_no (a0 : Bool) (f t : Int) (A0 : Option Addr) (c0 : Nat) (sp : List S35) (P1_ : Nat → Prop) (A1 : Option Addr) (c1 : Nat) (l1 : List ByteArray) (P2_ : Nat → Prop) (A2 : Option Addr) (c2 : Nat) (l2 : List (List ByteArray)) (w : World)
    (hr0 : Kd.C k35 w A0 sp.length sp) (hc0 : sp.length ≤ c0) (hs1 : Kd.V Kd.string 9 w w.heap.size (fun k_ => P1_ k_) (.slice A1 l1.length c1) l1) (hs2 : Kd.V (Kd.slice 9 Kd.string) 22 w w.heap.size (fun k_ => P2_ k_) (.slice A2 l2.length c2) l2)
    (hlen : sp.length = l2.length) (hbig : l2.length ≤ 5864062014805) (hb : spanB f t l1.length = false) :
    Calls Try.prog 26 #[.agg #[.bool a0, .int .i64 f, .int .i64 t, .slice A0 sp.length c0], .slice A1 l1.length c1, .slice A2 l2.length c2] w fun e w' => ∃ v0_ v1_ : Value, e = .returned (.tuple #[v0_, v1_, .int .i64 (partsG f t sp l1 l2).2.2]) ∧ Kd.V Kd.string 9 w' w.heap.size (fun k_ => P1_ k_ ∧ k_ < w.heap.size) v0_ (partsG f t sp l1 l2).1 ∧ Kd.N (Kd.slice 9 Kd.string) 22 w' w.heap.size (fun k_ => (P2_ k_ ∨ w.heap.size ≤ k_)) v1_ (partsG f t sp l1 l2).2.1 ∧ Below w.heap.size w w' := by
  have HR0 := Aside0.mk hr0
  have HC0 := Aside0.mk hc0
  have HS1 := Aside0.mk hs1
  have HS2 := Aside0.mk hs2
  have HL := Aside0.mk hlen
  have HLE := Aside0.mk hr0.2.1
  have HBB := Aside0.mk hb
  have HLB := Aside0.mk hbig
  have hn1 : ((sp.length : Int) != (l2.length : Int)) = false := bne_eq_false_iff_eq.mpr (by omega)
  have hn2 : (sp.length != l2.length) = false := bne_eq_false_iff_eq.mpr hlen
  clear hr0 hc0 hs1 hs2 hlen hb hbig
  go_enter Try.func26, Try.ntmps26
  have hBN : ((w.alloc (.cells #[.bool a0, .int .i64 f, .int .i64 t, .slice A0 sp.length c0] 38)).alloc (.cells #[.bool true] 4)).heap[w.heap.size + 1]? = some (.cells #[.bool true] 4 (0, 0)) := by
    have := Go.heap_alloc_new (w.alloc (.cells #[.bool a0, .int .i64 f, .int .i64 t, .slice A0 sp.length c0] 38)) (.cells #[.bool true] 4)
    simpa using this
  have HBN := Aside0.mk hBN
  clear hBN
  go_wp2_with (go_at_call 49; (with_reducible refine (cut49_no _ (w.heap.size + 1) true A1 c1 l1 f t HBN.out HBB.out).mono ?_); rintro e w' ⟨rfl, rfl⟩)
  obtain ⟨w3, hw3⟩ : ∃ w3, w3 = ((w.alloc (.cells #[.bool a0, .int .i64 f, .int .i64 t, .slice A0 sp.length c0] 38)).alloc (.cells #[.bool false] 4)).alloc (.cells #[.int .i64 f, .int .i64 t] 35) := ⟨_, rfl⟩
  have hB3 : Below w.heap.size w w3 := by rw [hw3]; repeat (first | exact Below.refl _ _ | apply below_alloc)
  have hK3 : w3.heap[w.heap.size + 1]? = some (.cells #[.bool false] 4 (0, 0)) := by
    rw [hw3]
    refine blk_later (w := (w.alloc (.cells #[.bool a0, .int .i64 f, .int .i64 t, .slice A0 sp.length c0] 38)).alloc (.cells #[.bool false] 4)) ?_ (by repeat (first | exact Below.refl _ _ | apply below_alloc))
    have := Go.heap_alloc_new (w.alloc (.cells #[.bool a0, .int .i64 f, .int .i64 t, .slice A0 sp.length c0] 38)) (.cells #[.bool false] 4)
    simpa using this
  have hz3 : w.heap.size + 2 ≤ w3.heap.size := by rw [hw3]; simp
  rw [← hw3]
  have HB3 := Aside0.mk hB3
  have HK3 := Aside0.mk hK3
  have HZ3 := Aside0.mk hz3
  clear hw3 hB3 hK3 hz3
  go_loopg [12, 30] l2.length (fun kq v12 v30 wr => ∃ (i : Nat) (b : Bool), v30 = .int .i64 (i : Int) ∧ Aside0 (i ≤ l2.length ∧ kq = l2.length - i) ∧ Aside0 (b = false) ∧ Aside0 (wr.heap[w.heap.size + 1]? = some (.cells #[.bool b] 4 (0, 0))) ∧
    Aside0 (Kd.N (Kd.slice 9 Kd.string) 22 wr (w.heap.size + 2) (fun k_ => (P2_ k_ ∧ k_ < w.heap.size) ∨ w.heap.size + 2 ≤ k_) v12 (cutsL (sp.take i) (l2.take i))) ∧ Aside0 (Below w.heap.size w wr) ∧ Aside0 (w.heap.size + 2 ≤ wr.heap.size))
  case atStart => exact ⟨0, false, rfl, ⟨Nat.zero_le _, rfl⟩, ⟨rfl⟩, HK3, ⟨Kd.N_nil _ _ _ _ _⟩, HB3, HZ3⟩
  case round =>
    obtain ⟨i, b, rfl, HI, HBV, HK, HO, HB, HZ⟩ := hrel
    have hli := HLE.out
    by_cases c4 : i < l2.length
    · have c5 : i < sp.length := by have := HL.out; omega
      have c4b0 : decide ((i : Int) < (sp.length : Int)) = true := decide_eq_true (by omega)
      have c4b1 : decide (i < sp.length) = true := decide_eq_true c5
      have c4b2 : decide (i < l2.length) = true := decide_eq_true c4
      obtain ⟨z, g0⟩ : ∃ z, l2[i]? = some z := ⟨_, List.getElem?_eq_getElem c4⟩
      obtain ⟨sn, g1⟩ : ∃ sn, sp[i]? = some sn := ⟨_, List.getElem?_eq_getElem c5⟩
      have hV2 := Kd.V_below (Kd.V_bound HS2.out) HB.out
      obtain ⟨ad, A4, c4', rfl, hx, hl4, hi4, hf4⟩ := V_row hV2 i z g0
      obtain ⟨ap, rfl, hs1, hs2⟩ := C_span (Kd.C_below HR0.out HB.out) i sn g1
      have HSN := Aside0.mk (cutsL_snoc sp l2 i sn z g1 g0)
      have HSB := Aside0.mk (spansB_snoc sp l2 i sn z g1 g0)
      have HC4 := Aside0.mk hl4
      have HF4 := Aside0.mk hf4
      have HN := Aside0.mk c4
      clear hl4 hf4 hi4 g0 g1 hV2
      have bi : (i : Int) < 9223372036854775807 := by omega
      have hxA : (wr.alloc (.cells #[.int .i64 sn.f0, .int .i64 sn.f1] 35)).cell? (ad.add i) = some (.slice A4 z.length c4') := pw_cell_below (below_alloc (Below.refl _ _) _) hx
      have hn0 : (wr.alloc (.cells #[.int .i64 sn.f0, .int .i64 sn.f1] 35)).cell? ⟨wr.heap.size, 0, none⟩ = some (.int .i64 sn.f0) := blk_cell (Go.heap_alloc_new wr _) 0
      have hn1 : (wr.alloc (.cells #[.int .i64 sn.f0, .int .i64 sn.f1] 35)).cell? ⟨wr.heap.size, 1, none⟩ = some (.int .i64 sn.f1) := blk_cell (Go.heap_alloc_new wr _) 1
      by_cases hv : spanB sn.f0 sn.f1 z.length = true
      · have HV := Aside0.mk hv
        clear hv
        go_wp2_with fail
        have hBW : Below w.heap.size w (wr.alloc (.cells #[.int .i64 sn.f0, .int .i64 sn.f1] 35)) := below_alloc HB.out _
        have hOW := Kd.N_alloc HO.out (.cells #[.int .i64 sn.f0, .int .i64 sn.f1] 35)
        have hKW := blk_later HK.out (below_alloc (Below.refl _ _) (.cells #[.int .i64 sn.f0, .int .i64 sn.f1] 35))
        have hRW := below_alloc (Below.refl wr.heap.size wr) (.cells #[.int .i64 sn.f0, .int .i64 sn.f1] 35)
        have hZW : w.heap.size + 2 ≤ (wr.alloc (.cells #[.int .i64 sn.f0, .int .i64 sn.f1] 35)).heap.size := by simp; have := HZ.out; omega
        obtain ⟨W4, hW4⟩ : ∃ W4, W4 = (wr.alloc (.cells #[.int .i64 sn.f0, .int .i64 sn.f1] 35)).drew := ⟨_, rfl⟩
        replace hBW : Below w.heap.size w W4 := by rw [hW4]; exact below_drew hBW
        replace hOW := Kd.N_drew hOW
        replace hKW : W4.heap[w.heap.size + 1]? = some (.cells #[.bool b] 4 (0, 0)) := by rw [hW4]; exact hKW
        replace hRW : Below wr.heap.size wr W4 := by rw [hW4]; exact below_drew hRW
        replace hZW : w.heap.size + 2 ≤ W4.heap.size := by rw [hW4]; exact hZW
        rw [← hW4] at hOW
        have HBW := Aside0.mk hBW
        have HOW := Aside0.mk hOW
        have HKW := Aside0.mk hKW
        have HRW := Aside0.mk hRW
        have HZW := Aside0.mk hZW
        clear hBW hOW hKW hRW hZW HK HO HB
        refine start_ (n := 11) (S := fun w' => w'.cell? (ad.add i) = some (.slice A4 z.length c4') ∧ w'.cell? ⟨wr.heap.size, 0, none⟩ = some (.int .i64 sn.f0) ∧ w'.cell? ⟨wr.heap.size, 1, none⟩ = some (.int .i64 sn.f1)) (ds := [7, 8, 9]) #[false, false, false, false, false, false, false, false, false, false, false] (by kernel_rfl) rfl rfl ⟨hxA, hn0, hn1⟩ (fun hHeld => ?_)
        rw [← hW4] at hHeld ⊢
        clear hW4 hxA hn0 hn1
        refine pure_ (i := 0) (N := some 35) (v := ?_) (a' := ?_) #[true, false, false, false, false, false, false, false, false, false, false] rfl rfl (by kernel_rfl) (fun _ _ _ h => h) (Or.inl ⟨by rfl, ?_⟩) ?_ ?_
        rotate_left
        · intro w'
          go_simp
          with_reducible rfl
        rotate_left
        · simp only [Act.put, List.setIfInBounds_toArray, List.set_cons_zero, List.set_cons_succ, i64_w, i32_w]
          rfl
        refine pure_ (i := 1) (N := some 36) (v := ?_) (a' := ?_) #[true, true, false, false, false, false, false, false, false, false, false] rfl rfl (by kernel_rfl) (fun _ _ _ h => h) (Or.inl ⟨by rfl, ?_⟩) ?_ ?_
        rotate_left
        · intro w'
          go_simp
          with_reducible rfl
        rotate_left
        · simp only [Act.put, List.setIfInBounds_toArray, List.set_cons_zero, List.set_cons_succ, i64_w, i32_w]
          rfl
        refine pure_ (i := 2) (N := some 37) (v := ?_) (a' := ?_) #[true, true, true, false, false, false, false, false, false, false, false] rfl rfl (by kernel_rfl) (fun _ _ _ h => h) (Or.inl ⟨by rfl, ?_⟩) ?_ ?_
        rotate_left
        · intro w'
          go_simp
          with_reducible rfl
        rotate_left
        · simp only [Act.put, List.setIfInBounds_toArray, List.set_cons_zero, List.set_cons_succ, i64_w, i32_w]
          rfl
        refine pure_ (i := 3) (N := some 38) (v := ?_) (a' := ?_) #[true, true, true, true, false, false, false, false, false, false, false] rfl rfl (by kernel_rfl) (fun _ _ _ h => h) (Or.inl ⟨by rfl, ?_⟩) ?_ ?_
        rotate_left
        · intro w'
          go_simp
          with_reducible rfl
        rotate_left
        · simp only [Act.put, List.setIfInBounds_toArray, List.set_cons_zero, List.set_cons_succ, i64_w, i32_w]
          rfl
        refine pure_ (i := 4) (N := some 39) (v := ?_) (a' := ?_) #[true, true, true, true, true, false, false, false, false, false, false] rfl rfl (by kernel_rfl) (fun _ _ _ h => h) (Or.inl ⟨by rfl, ?_⟩) ?_ ?_
        rotate_left
        · intro w'
          go_simp
          with_reducible rfl
        rotate_left
        · simp only [Act.put, List.setIfInBounds_toArray, List.set_cons_zero, List.set_cons_succ, i64_w, i32_w]
          rfl
        refine take_ (i := 5) (N := some 40) (v := ?_) (a' := ?_) #[true, true, true, true, true, true, false, false, false, false, false] rfl rfl (by kernel_rfl) (fun _ _ _ h => h) (Or.inl ⟨by rfl, ?_⟩) hHeld ?_ ?_
        rotate_left
        · rintro w' ⟨s0, s1, s2⟩
          go_simp
          with_reducible rfl
        rotate_left
        · simp only [Act.put, List.setIfInBounds_toArray, List.set_cons_zero, List.set_cons_succ, i64_w, i32_w]
          rfl
        refine take_ (i := 6) (N := some 41) (v := ?_) (a' := ?_) #[true, true, true, true, true, true, true, false, false, false, false] rfl rfl (by kernel_rfl) (fun _ _ _ h => h) (Or.inl ⟨by rfl, ?_⟩) hHeld ?_ ?_
        rotate_left
        · rintro w' ⟨s0, s1, s2⟩
          go_simp
          with_reducible rfl
        rotate_left
        · simp only [Act.put, List.setIfInBounds_toArray, List.set_cons_zero, List.set_cons_succ, i64_w, i32_w]
          rfl
        refine last_ (i := 7) (N := some 42) #[true, true, true, true, true, true, true, true, false, false, false] rfl rfl (by kernel_rfl) (by decide) (fun K hK => ?_)
        refine goesT_ #[.pointer (some ⟨w.heap.size + 1, 0, none⟩)] #[.slice A4 z.length c4', .agg #[.int .i64 sn.f0, .int .i64 sn.f1], .pointer (some ⟨w.heap.size + 1, 0, none⟩)] Try.func49 (by kernel_rfl) rfl #[.slice A4 z.length c4', .agg #[.int .i64 sn.f0, .int .i64 sn.f1]] rfl (by rfl) rfl rfl (by rfl) (by simp only [List.map_toArray, List.map_cons, List.map_nil]; rfl) ?_
        with_reducible refine (cut49_yes _ (w.heap.size + 1) A4 c4' z sn.f0 sn.f1 w.heap.size (fun k_ => P2_ k_ ∧ k_ < w.heap.size) ?hs HV.out).mono ?_
        case hs => exact Kd.V_mk HC4.out (Kd.F_below HF4.out HRW.out)
        rintro e w3 ⟨v, rfl, hv, rfl⟩
        refine ⟨_, rfl, ?_⟩
        obtain ⟨A5, c5x, rfl, hl5, hF5⟩ := hv
        have HL5 := Aside0.mk hl5
        have HF5 := Aside0.mk hF5
        clear hl5 hF5
        refine hK.out _ _ ?_
        clear hK K
        refine norm_ (a' := ?_) ?_ ?_
        rotate_left
        · show Act.put _ (some 42) _ = _
          simp only [Act.put, List.setIfInBounds_toArray, List.set_cons_zero, List.set_cons_succ, i64_w, i32_w]
          rfl
        refine last_ (i := 8) (N := some 43) #[true, true, true, true, true, true, true, true, true, false, false] rfl rfl (by kernel_rfl) (by decide) (fun K hK => ?_)
        refine value_ (w1 := ?_) (v := ?_) (by rfl) rfl ?_ ?_
        rotate_left 2
        · go_simp
          constructor
          · rfl
          · rfl
        refine hK.out _ _ ?_
        clear hK K
        refine norm_ (a' := ?_) ?_ ?_
        rotate_left
        · show Act.put _ (some 43) _ = _
          simp only [Act.put, List.setIfInBounds_toArray, List.set_cons_zero, List.set_cons_succ, i64_w, i32_w]
          rfl
        refine last_ (i := 9) (N := some 44) #[true, true, true, true, true, true, true, true, true, true, false] rfl rfl (by kernel_rfl) (by decide) (fun K hK => ?_)
        refine Kd.N_append_step (Kd.slice 9 Kd.string) (w.heap.size + 2) (by rfl) (.tmp 35) (.tmp 43) 23 22 (.slice none 0 0) 24 rfl Try.underlying23 info22 rfl (by decide) (by omega) u12 (cutsL (sp.take i) (l2.take i)) (cutL sn.f0 sn.f1 z) [.slice A5 (cutL sn.f0 sn.f1 z).length c5x] (fun k_ => (P2_ k_ ∧ k_ < w.heap.size) ∨ w.heap.size + 2 ≤ k_) (fun k_ => P2_ k_ ∧ k_ < w.heap.size) rfl ?_ ?_ ?_ ?_ ?_ (Below.refl _ _) ?_ ?_ ?_
        · show Value.slice (some ⟨W4.heap.size + 1, 0, none⟩) 1 1 = _; simp
        · exact Kd.FK_slice_mk HL5.out HF5.out
        · exact fun k hk => ⟨.inl hk, fun he => by have := Kd.N_base HOW.out k he.symm; have := hk.2; omega⟩
        · exact fun k hk => .inr (by simp at hk; have := HZW.out; omega)
        · exact Kd.N_alloc HOW.out _
        · exact (by simp; have := HZW.out; omega)
        · have := HN.out; have := HLB.out; unfold cutsL; simp; omega
        intro v126 w17 ho hb hg hat
        have n1 := Aside0.mk ho
        have n2 := Aside0.mk hb
        have n3 := Aside0.mk (blk_grown (blk_later HKW.out (below_alloc (Below.refl _ _) _)) hg (fun he => by have := Kd.N_base HOW.out (w.heap.size + 1) he.symm; omega))
        have n4 := Aside0.mk (Below.trans (below_alloc HBW.out _) (hb.mono (by omega)))
        have n5 := Aside0.mk (show w.heap.size + 2 ≤ w17.heap.size from by have hs := hb.size; simp at hs; have := HZW.out; omega)
        clear ho hb hg hat
        refine hK.out _ _ ?_
        clear hK K
        refine norm_ (a' := ?_) ?_ ?_
        rotate_left
        · show Act.put _ (some 44) _ = _
          simp only [Act.put, List.setIfInBounds_toArray, List.set_cons_zero, List.set_cons_succ, i64_w, i32_w]
          rfl
        refine pure_ (i := 10) (N := some 12) (v := ?_) (a' := ?_) #[true, true, true, true, true, true, true, true, true, true, true] rfl rfl (by kernel_rfl) (fun _ _ _ h => h) (Or.inl ⟨by rfl, ?_⟩) ?_ ?_
        rotate_left
        · intro w'
          go_simp
          with_reducible rfl
        rotate_left
        · simp only [Act.put, List.setIfInBounds_toArray, List.set_cons_zero, List.set_cons_succ, i64_w, i32_w]
          rfl
        refine done_ (by kernel_rfl) ?_

        go_wp2
        go_roundg (l2.length - (i + 1))
        case measure => have := HI.out; omega
        case rel => exact ⟨i + 1, b, by go_num, ⟨by omega, rfl⟩, HBV, n3, ⟨by rw [HSN.out]; exact n1.out⟩, n4, n5⟩
      · have HV := Aside0.mk (Bool.eq_false_iff.mpr hv)
        have HCN : Aside0 (cutL sn.f0 sn.f1 z = []) := ⟨by unfold cutL; rw [if_neg hv]⟩
        rw [HCN.out] at HSN
        clear hv
        go_wp2_with fail
        have hBW : Below w.heap.size w (wr.alloc (.cells #[.int .i64 sn.f0, .int .i64 sn.f1] 35)) := below_alloc HB.out _
        have hOW := Kd.N_alloc HO.out (.cells #[.int .i64 sn.f0, .int .i64 sn.f1] 35)
        have hKW := blk_later HK.out (below_alloc (Below.refl _ _) (.cells #[.int .i64 sn.f0, .int .i64 sn.f1] 35))
        have hRW := below_alloc (Below.refl wr.heap.size wr) (.cells #[.int .i64 sn.f0, .int .i64 sn.f1] 35)
        have hZW : w.heap.size + 2 ≤ (wr.alloc (.cells #[.int .i64 sn.f0, .int .i64 sn.f1] 35)).heap.size := by simp; have := HZ.out; omega
        obtain ⟨W4, hW4⟩ : ∃ W4, W4 = (wr.alloc (.cells #[.int .i64 sn.f0, .int .i64 sn.f1] 35)).drew := ⟨_, rfl⟩
        replace hBW : Below w.heap.size w W4 := by rw [hW4]; exact below_drew hBW
        replace hOW := Kd.N_drew hOW
        replace hKW : W4.heap[w.heap.size + 1]? = some (.cells #[.bool b] 4 (0, 0)) := by rw [hW4]; exact hKW
        replace hRW : Below wr.heap.size wr W4 := by rw [hW4]; exact below_drew hRW
        replace hZW : w.heap.size + 2 ≤ W4.heap.size := by rw [hW4]; exact hZW
        rw [← hW4] at hOW
        have HBW := Aside0.mk hBW
        have HOW := Aside0.mk hOW
        have HKW := Aside0.mk hKW
        have HRW := Aside0.mk hRW
        have HZW := Aside0.mk hZW
        clear hBW hOW hKW hRW hZW HK HO HB
        refine start_ (n := 11) (S := fun w' => w'.cell? (ad.add i) = some (.slice A4 z.length c4') ∧ w'.cell? ⟨wr.heap.size, 0, none⟩ = some (.int .i64 sn.f0) ∧ w'.cell? ⟨wr.heap.size, 1, none⟩ = some (.int .i64 sn.f1)) (ds := [7, 8, 9]) #[false, false, false, false, false, false, false, false, false, false, false] (by kernel_rfl) rfl rfl ⟨hxA, hn0, hn1⟩ (fun hHeld => ?_)
        rw [← hW4] at hHeld ⊢
        clear hW4 hxA hn0 hn1
        refine pure_ (i := 0) (N := some 35) (v := ?_) (a' := ?_) #[true, false, false, false, false, false, false, false, false, false, false] rfl rfl (by kernel_rfl) (fun _ _ _ h => h) (Or.inl ⟨by rfl, ?_⟩) ?_ ?_
        rotate_left
        · intro w'
          go_simp
          with_reducible rfl
        rotate_left
        · simp only [Act.put, List.setIfInBounds_toArray, List.set_cons_zero, List.set_cons_succ, i64_w, i32_w]
          rfl
        refine pure_ (i := 1) (N := some 36) (v := ?_) (a' := ?_) #[true, true, false, false, false, false, false, false, false, false, false] rfl rfl (by kernel_rfl) (fun _ _ _ h => h) (Or.inl ⟨by rfl, ?_⟩) ?_ ?_
        rotate_left
        · intro w'
          go_simp
          with_reducible rfl
        rotate_left
        · simp only [Act.put, List.setIfInBounds_toArray, List.set_cons_zero, List.set_cons_succ, i64_w, i32_w]
          rfl
        refine pure_ (i := 2) (N := some 37) (v := ?_) (a' := ?_) #[true, true, true, false, false, false, false, false, false, false, false] rfl rfl (by kernel_rfl) (fun _ _ _ h => h) (Or.inl ⟨by rfl, ?_⟩) ?_ ?_
        rotate_left
        · intro w'
          go_simp
          with_reducible rfl
        rotate_left
        · simp only [Act.put, List.setIfInBounds_toArray, List.set_cons_zero, List.set_cons_succ, i64_w, i32_w]
          rfl
        refine pure_ (i := 3) (N := some 38) (v := ?_) (a' := ?_) #[true, true, true, true, false, false, false, false, false, false, false] rfl rfl (by kernel_rfl) (fun _ _ _ h => h) (Or.inl ⟨by rfl, ?_⟩) ?_ ?_
        rotate_left
        · intro w'
          go_simp
          with_reducible rfl
        rotate_left
        · simp only [Act.put, List.setIfInBounds_toArray, List.set_cons_zero, List.set_cons_succ, i64_w, i32_w]
          rfl
        refine pure_ (i := 4) (N := some 39) (v := ?_) (a' := ?_) #[true, true, true, true, true, false, false, false, false, false, false] rfl rfl (by kernel_rfl) (fun _ _ _ h => h) (Or.inl ⟨by rfl, ?_⟩) ?_ ?_
        rotate_left
        · intro w'
          go_simp
          with_reducible rfl
        rotate_left
        · simp only [Act.put, List.setIfInBounds_toArray, List.set_cons_zero, List.set_cons_succ, i64_w, i32_w]
          rfl
        refine take_ (i := 5) (N := some 40) (v := ?_) (a' := ?_) #[true, true, true, true, true, true, false, false, false, false, false] rfl rfl (by kernel_rfl) (fun _ _ _ h => h) (Or.inl ⟨by rfl, ?_⟩) hHeld ?_ ?_
        rotate_left
        · rintro w' ⟨s0, s1, s2⟩
          go_simp
          with_reducible rfl
        rotate_left
        · simp only [Act.put, List.setIfInBounds_toArray, List.set_cons_zero, List.set_cons_succ, i64_w, i32_w]
          rfl
        refine take_ (i := 6) (N := some 41) (v := ?_) (a' := ?_) #[true, true, true, true, true, true, true, false, false, false, false] rfl rfl (by kernel_rfl) (fun _ _ _ h => h) (Or.inl ⟨by rfl, ?_⟩) hHeld ?_ ?_
        rotate_left
        · rintro w' ⟨s0, s1, s2⟩
          go_simp
          with_reducible rfl
        rotate_left
        · simp only [Act.put, List.setIfInBounds_toArray, List.set_cons_zero, List.set_cons_succ, i64_w, i32_w]
          rfl
        refine last_ (i := 7) (N := some 42) #[true, true, true, true, true, true, true, true, false, false, false] rfl rfl (by kernel_rfl) (by decide) (fun K hK => ?_)
        refine goesT_ #[.pointer (some ⟨w.heap.size + 1, 0, none⟩)] #[.slice A4 z.length c4', .agg #[.int .i64 sn.f0, .int .i64 sn.f1], .pointer (some ⟨w.heap.size + 1, 0, none⟩)] Try.func49 (by kernel_rfl) rfl #[.slice A4 z.length c4', .agg #[.int .i64 sn.f0, .int .i64 sn.f1]] rfl (by rfl) rfl rfl (by rfl) (by simp only [List.map_toArray, List.map_cons, List.map_nil]; rfl) ?_
        with_reducible refine (cut49_no _ (w.heap.size + 1) b A4 c4' z sn.f0 sn.f1 HKW.out HV.out).mono ?_
        rintro e w3 ⟨rfl, rfl⟩
        refine ⟨_, rfl, ?_⟩
        skip
        refine hK.out _ _ ?_
        clear hK K
        refine norm_ (a' := ?_) ?_ ?_
        rotate_left
        · show Act.put _ (some 42) _ = _
          simp only [Act.put, List.setIfInBounds_toArray, List.set_cons_zero, List.set_cons_succ, i64_w, i32_w]
          rfl
        refine last_ (i := 8) (N := some 43) #[true, true, true, true, true, true, true, true, true, false, false] rfl rfl (by kernel_rfl) (by decide) (fun K hK => ?_)
        refine value_ (w1 := ?_) (v := ?_) (by rfl) rfl ?_ ?_
        rotate_left 2
        · go_simp
          constructor
          · rfl
          · rfl
        refine hK.out _ _ ?_
        clear hK K
        refine norm_ (a' := ?_) ?_ ?_
        rotate_left
        · show Act.put _ (some 43) _ = _
          simp only [Act.put, List.setIfInBounds_toArray, List.set_cons_zero, List.set_cons_succ, i64_w, i32_w]
          rfl
        refine last_ (i := 9) (N := some 44) #[true, true, true, true, true, true, true, true, true, true, false] rfl rfl (by kernel_rfl) (by decide) (fun K hK => ?_)
        refine Kd.N_append_step (Kd.slice 9 Kd.string) (w.heap.size + 2) (by rfl) (.tmp 35) (.tmp 43) 23 22 (.slice none 0 0) 24 rfl Try.underlying23 info22 rfl (by decide) (by omega) u12 (cutsL (sp.take i) (l2.take i)) ([] : List ByteArray) [.slice none 0 0] (fun k_ => (P2_ k_ ∧ k_ < w.heap.size) ∨ w.heap.size + 2 ≤ k_) (fun k_ => P2_ k_ ∧ k_ < w.heap.size) rfl ?_ ?_ ?_ ?_ ?_ (Below.refl _ _) ?_ ?_ ?_
        · show Value.slice (some ⟨W4.heap.size + 1, 0, none⟩) 1 1 = _; simp
        · exact Kd.FK_slice_mk (Nat.le_refl _) (Kd.F_nil _ _ _)
        · exact fun k hk => ⟨.inl hk, fun he => by have := Kd.N_base HOW.out k he.symm; have := hk.2; omega⟩
        · exact fun k hk => .inr (by simp at hk; have := HZW.out; omega)
        · exact Kd.N_alloc (Kd.N_far HOW.out (fun k hk => by show k ≠ w.heap.size + 1; rcases hk with hk | hk <;> omega) _) _
        · exact (by simp; have := HZW.out; omega)
        · have := HN.out; have := HLB.out; unfold cutsL; simp; omega
        intro v126 w17 ho hb hg hat
        have n1 := Aside0.mk ho
        have n2 := Aside0.mk hb
        have n3 := Aside0.mk (blk_grown (blk_later (blk_set HKW.out 0 _) (below_alloc (Below.refl _ _) _)) hg (fun he => by have := Kd.N_base HOW.out (w.heap.size + 1) he.symm; omega))
        have n4 := Aside0.mk (Below.trans (below_alloc (Below.setCell HBW.out (by show w.heap.size ≤ w.heap.size + 1; omega) _) _) (hb.mono (by omega)))
        have n5 := Aside0.mk (show w.heap.size + 2 ≤ w17.heap.size from by have hs := hb.size; simp at hs; have := HZW.out; omega)
        clear ho hb hg hat
        refine hK.out _ _ ?_
        clear hK K
        refine norm_ (a' := ?_) ?_ ?_
        rotate_left
        · show Act.put _ (some 44) _ = _
          simp only [Act.put, List.setIfInBounds_toArray, List.set_cons_zero, List.set_cons_succ, i64_w, i32_w]
          rfl
        refine pure_ (i := 10) (N := some 12) (v := ?_) (a' := ?_) #[true, true, true, true, true, true, true, true, true, true, true] rfl rfl (by kernel_rfl) (fun _ _ _ h => h) (Or.inl ⟨by rfl, ?_⟩) ?_ ?_
        rotate_left
        · intro w'
          go_simp
          with_reducible rfl
        rotate_left
        · simp only [Act.put, List.setIfInBounds_toArray, List.set_cons_zero, List.set_cons_succ, i64_w, i32_w]
          rfl
        refine done_ (by kernel_rfl) ?_

        go_wp2
        go_roundg (l2.length - (i + 1))
        case measure => have := HI.out; omega
        case rel => exact ⟨i + 1, false, by go_num, ⟨by omega, rfl⟩, ⟨rfl⟩, n3, ⟨by rw [HSN.out]; exact n1.out⟩, n4, n5⟩
    · have c5 : ¬ i < sp.length := by have := HL.out; omega
      have c4b0 : decide ((i : Int) < (sp.length : Int)) = false := decide_eq_false (by omega)
      have c4b1 : decide (i < sp.length) = false := decide_eq_false c5
      have HT := Aside0.mk (List.take_of_length_le (l := l2) (i := i) (by omega))
      have HT2 := Aside0.mk (List.take_of_length_le (l := sp) (i := i) (by omega))
      have hcell : wr.cell? ⟨w.heap.size + 1, 0, none⟩ = some (.bool b) := blk_cell HK.out 0
      clear c4 c5
      cases b with
      | true => exact absurd HBV.out (by decide)
      | false =>
        have HG : Aside0 (partsG f t sp l1 l2 = ([], [], 3)) := ⟨by
          unfold partsG
          rw [if_pos HL.out, HBB.out, Bool.false_and]; rfl⟩
        go_wp2
        repeat (go_quiet (fail); try go_wp2)
        go_ret3
        simp only [HG.out]
        exact ⟨_, _, rfl, Kd.V_nil _ _ _ _ _, Kd.N_nil _ _ _ _ _, HB.out⟩
end Go.Proofs.Ytiaoppikdgoieaa.M
namespace Go.Proofs.Ytiaoppikdgoieaa.M
open Go.RowKit Go.Proofs.YtiaoppikdgoieaaW.PrintWords Go.Proofs.YtiaoppikdgoieaaW.PrintLast Go.Proofs.YtiaoppikdgoieaaW.PrintMore Go.Proofs.Ytiaoppikdgoieaa.Hand
set_option linter.unusedVariables false

def content_Parts.f (k : Nat) (a0_0 : Bool) (a0_1 : Int) (a0_2 : Int) (l0_3 : List S35) (l1 : List ByteArray) (l2 : List (List ByteArray)) : Option (List ByteArray × List (List ByteArray) × Int) := if l2.length ≤ 5864062014805 then some (partsG a0_1 a0_2 l0_3 l1 l2) else none
theorem content_Parts.mono : ∀ a0 a1 a2 a3 a4 a5 k, LeO (content_Parts.f k a0 a1 a2 a3 a4 a5) (content_Parts.f (k + 1) a0 a1 a2 a3 a4 a5) := fun _ _ _ _ _ _ _ => LeO.refl _
set_option maxHeartbeats 1000000 in
set_option maxRecDepth 100000 in
theorem content_Parts.calls (k : Nat) (a0_0 : Bool) (a0_1 : Int) (a0_2 : Int) (A0_3 : Option Addr) (c0_3 : Nat) (l0_3 : List S35) (P1_ : Nat → Prop) (A1 : Option Addr) (c1 : Nat) (l1 : List ByteArray) (P2_ : Nat → Prop) (A2 : Option Addr) (c2 : Nat) (l2 : List (List ByteArray)) (r1 : List ByteArray) (r2 : List (List ByteArray)) (r3 : Int) (w : World)
    (hr0_3 : Kd.C k35 w A0_3 l0_3.length l0_3) (hc0_3 : l0_3.length ≤ c0_3) (hs1 : Kd.V Kd.string 9 w w.heap.size (fun k_ => P1_ k_) (.slice A1 l1.length c1) l1) (hs2 : Kd.V (Kd.slice 9 Kd.string) 22 w w.heap.size (fun k_ => P2_ k_) (.slice A2 l2.length c2) l2) (h : content_Parts.f k a0_0 a0_1 a0_2 l0_3 l1 l2 = some (r1, r2, r3)) :
    Calls Try.prog 26 #[.agg #[.bool a0_0, .int .i64 a0_1, .int .i64 a0_2, .slice A0_3 l0_3.length c0_3], .slice A1 l1.length c1, .slice A2 l2.length c2] w fun e w' => ∃ v0_ v1_ : Value, e = .returned (.tuple #[v0_, v1_, .int .i64 r3]) ∧ Kd.V Kd.string 9 w' w.heap.size (fun k_ => ((P1_ k_ ∨ P2_ k_) ∨ w.heap.size ≤ k_) ∧ some k_ ≠ (v1_ : Value).ownBlock) v0_ r1 ∧ Kd.N (Kd.slice 9 Kd.string) 22 w' w.heap.size (fun k_ => ((P1_ k_ ∨ P2_ k_) ∨ w.heap.size ≤ k_)) v1_ r2 ∧ Below w.heap.size w w' := by
  unfold content_Parts.f at h
  by_cases hbig : l2.length ≤ 5864062014805
  · rw [if_pos hbig] at h
    have hg : partsG a0_1 a0_2 l0_3 l1 l2 = (r1, r2, r3) := Option.some.inj h
    have fin : ∀ (e : Ending) (w' : World), (∃ v0_ v1_ : Value, e = .returned (.tuple #[v0_, v1_, .int .i64 (partsG a0_1 a0_2 l0_3 l1 l2).2.2]) ∧ Kd.V Kd.string 9 w' w.heap.size (fun k_ => P1_ k_ ∧ k_ < w.heap.size) v0_ (partsG a0_1 a0_2 l0_3 l1 l2).1 ∧ Kd.N (Kd.slice 9 Kd.string) 22 w' w.heap.size (fun k_ => (P2_ k_ ∨ w.heap.size ≤ k_)) v1_ (partsG a0_1 a0_2 l0_3 l1 l2).2.1 ∧ Below w.heap.size w w') →
        ∃ v0_ v1_ : Value, e = .returned (.tuple #[v0_, v1_, .int .i64 r3]) ∧ Kd.V Kd.string 9 w' w.heap.size (fun k_ => ((P1_ k_ ∨ P2_ k_) ∨ w.heap.size ≤ k_) ∧ some k_ ≠ (v1_ : Value).ownBlock) v0_ r1 ∧ Kd.N (Kd.slice 9 Kd.string) 22 w' w.heap.size (fun k_ => ((P1_ k_ ∨ P2_ k_) ∨ w.heap.size ≤ k_)) v1_ r2 ∧ Below w.heap.size w w' := by
      rintro e w' ⟨v0, v1, he, hv, hn, hb⟩
      rw [hg] at he hv hn
      exact ⟨v0, v1, he, Kd.V_mono hv (fun k hk => ⟨.inl (.inl hk.1), fun he => by have := Kd.N_base hn k he.symm; have := hk.2; omega⟩), Kd.N_mono hn (fun k hk => hk.imp .inr id), hb⟩
    by_cases hl : l0_3.length = l2.length
    · by_cases hsp : spanB a0_1 a0_2 l1.length = true
      · exact (parts26_yes a0_0 a0_1 a0_2 A0_3 c0_3 l0_3 P1_ A1 c1 l1 P2_ A2 c2 l2 w hr0_3 hc0_3 hs1 hs2 hl hbig hsp).mono fin
      · exact (parts26_no a0_0 a0_1 a0_2 A0_3 c0_3 l0_3 P1_ A1 c1 l1 P2_ A2 c2 l2 w hr0_3 hc0_3 hs1 hs2 hl hbig (Bool.eq_false_iff.mpr hsp)).mono fin
    · have hg2 : r3 = 1 ∧ r1 = [] ∧ r2 = [] := by
        unfold partsG at hg
        rw [if_neg hl] at hg
        simp only [Prod.mk.injEq] at hg
        exact ⟨hg.2.2.symm, hg.1.symm, hg.2.1.symm⟩
      obtain ⟨rfl, rfl, rfl⟩ := hg2
      have hn1 : ((l0_3.length : Int) != (l2.length : Int)) = true := bne_iff_ne.mpr (by omega)
      have hn2 : (l0_3.length != l2.length) = true := bne_iff_ne.mpr hl
      clear fin hg hs1 hs2 hr0_3 hc0_3 h hbig hl
      go_enter Try.func26, Try.ntmps26
      go_wp2
      repeat (go_quiet (fail); try go_wp2)
      go_ret3
      exact ⟨_, _, rfl, Kd.V_nil _ _ _ _ _, Kd.N_nil _ _ _ _ _, by repeat (first | exact Below.refl _ _ | apply below_alloc | apply pw_below_drewN)⟩
  · rw [if_neg hbig] at h
    exact absurd h (by simp)
end Go.Proofs.Ytiaoppikdgoieaa.M
namespace Go.Proofs.Ytiaoppikdgoieaa.M
open Go.RowKit Go.Proofs.YtiaoppikdgoieaaW.PrintWords Go.Proofs.YtiaoppikdgoieaaW.PrintLast Go.Proofs.YtiaoppikdgoieaaW.PrintMore Go.Proofs.Ytiaoppikdgoieaa.Hand
attribute [local go_sem] max2_int min2_int max_two min_two max_three min_three max_four min_four
set_option linter.unusedVariables false
set_option linter.unusedSimpArgs false

/-! ### sennitlaw06_awake: function 25 -/
def sennitlaw06_awake.f (k : Nat)  : Option (Bool) := (content_Differing.f k (([(⟨#[97]⟩ : ByteArray)] : List ByteArray)) (([(([(⟨#[98]⟩ : ByteArray)] : List ByteArray)), (([(⟨#[97]⟩ : ByteArray)] : List ByteArray)), (([(⟨#[98]⟩ : ByteArray)] : List ByteArray))] : List (List ByteArray)))).bind fun t225 => ((content_Parts.f k false 1 2 (([(⟨0, 1⟩ : S35)] : List (S35))) (([(⟨#[97]⟩ : ByteArray), (⟨#[98]⟩ : ByteArray)] : List ByteArray)) (([(([(⟨#[99]⟩ : ByteArray)] : List ByteArray))] : List (List ByteArray)))).bind fun bt240 => (if (t225.length : Int) = 1 then (if 0 < (t225.length : Int) then (if 0 < ((rd_L1 t225 0).length : Int) then (if (rdOf ByteArray.empty (rd_L1 t225 0) 0).toList = ([98] : List UInt8) then (if bt240.2.2 = 0 then (if (bt240.1.length : Int) = 1 then (if 0 < (bt240.1.length : Int) then (if (rdOf ByteArray.empty bt240.1 0).toList = ([98] : List UInt8) then (if (bt240.2.1.length : Int) = 1 then (if 0 < (bt240.2.1.length : Int) then (if 0 < ((rd_L1 bt240.2.1 0).length : Int) then (if (rdOf ByteArray.empty (rd_L1 bt240.2.1 0) 0).toList = ([99] : List UInt8) then ((content_Kind.f k ([] : List ByteArray) (([(([(⟨#[97]⟩ : ByteArray)] : List ByteArray)), (([(⟨#[98]⟩ : ByteArray)] : List ByteArray))] : List (List ByteArray)))).bind fun t261 => (some (t261 == 2))) else (none)) else (none)) else (none)) else (none)) else (none)) else (none)) else (none)) else (none)) else (none)) else (none)) else (none)) else (none)))
theorem sennitlaw06_awake.mono : ∀ k, LeO (sennitlaw06_awake.f k ) (sennitlaw06_awake.f (k + 1) ) := by
  intro  k
  unfold sennitlaw06_awake.f
  repeat' first
      | (with_reducible exact content_Differing.mono _ _ _)
      | (with_reducible exact content_Kind.mono _ _ _)
      | (with_reducible exact content_Parts.mono _ _ _ _ _ _ _)
      | (with_reducible exact LeO.refl _)
      | (with_reducible exact LeO.none _)
      | (with_reducible refine LeO.ite ?_ ?_)
      | (with_reducible refine LeO.bind ?_ (fun _ => ?_))
      | exact content_Differing.mono _ _ _
      | exact content_Kind.mono _ _ _
      | exact content_Parts.mono _ _ _ _ _ _ _
      | exact LeO.none _
      | refine LeO.ite ?_ ?_
      | refine LeO.bind ?_ (fun _ => ?_)
set_option maxHeartbeats 8000000 in
set_option maxRecDepth 100000 in
theorem sennitlaw06_awake.calls (k : Nat)  (r : Bool) (w : World) (h : sennitlaw06_awake.f k  = some r) :
    Calls Try.prog 25 #[] w fun e w' => e = .returned (.bool r) ∧ Below w.heap.size w w' := by
  have hu35 := Try.underlying35
  have hu38 := Try.underlying38
  have HB := am (Below.refl w.heap.size w)
  have H : ((content_Differing.f k (([(⟨#[97]⟩ : ByteArray)] : List ByteArray)) (([(([(⟨#[98]⟩ : ByteArray)] : List ByteArray)), (([(⟨#[97]⟩ : ByteArray)] : List ByteArray)), (([(⟨#[98]⟩ : ByteArray)] : List ByteArray))] : List (List ByteArray)))).bind fun t225 => ((content_Parts.f k false 1 2 (([(⟨0, 1⟩ : S35)] : List (S35))) (([(⟨#[97]⟩ : ByteArray), (⟨#[98]⟩ : ByteArray)] : List ByteArray)) (([(([(⟨#[99]⟩ : ByteArray)] : List ByteArray))] : List (List ByteArray)))).bind fun bt240 => (if (t225.length : Int) = 1 then (if 0 < (t225.length : Int) then (if 0 < ((rd_L1 t225 0).length : Int) then (if (rdOf ByteArray.empty (rd_L1 t225 0) 0).toList = ([98] : List UInt8) then (if bt240.2.2 = 0 then (if (bt240.1.length : Int) = 1 then (if 0 < (bt240.1.length : Int) then (if (rdOf ByteArray.empty bt240.1 0).toList = ([98] : List UInt8) then (if (bt240.2.1.length : Int) = 1 then (if 0 < (bt240.2.1.length : Int) then (if 0 < ((rd_L1 bt240.2.1 0).length : Int) then (if (rdOf ByteArray.empty (rd_L1 bt240.2.1 0) 0).toList = ([99] : List UInt8) then ((content_Kind.f k ([] : List ByteArray) (([(([(⟨#[97]⟩ : ByteArray)] : List ByteArray)), (([(⟨#[98]⟩ : ByteArray)] : List ByteArray))] : List (List ByteArray)))).bind fun t261 => (some (t261 == 2))) else (none)) else (none)) else (none)) else (none)) else (none)) else (none)) else (none)) else (none)) else (none)) else (none)) else (none)) else (none)))) = some r := h
  clear h
  obtain ⟨y210, hy210⟩ : ∃ y_ : List ByteArray, y_ = (([(⟨#[97]⟩ : ByteArray)] : List ByteArray)) := ⟨_, rfl⟩
  replace H : ((content_Differing.f k y210 (([(([(⟨#[98]⟩ : ByteArray)] : List ByteArray)), (([(⟨#[97]⟩ : ByteArray)] : List ByteArray)), (([(⟨#[98]⟩ : ByteArray)] : List ByteArray))] : List (List ByteArray)))).bind fun t225 => ((content_Parts.f k false 1 2 (([(⟨0, 1⟩ : S35)] : List (S35))) (([(⟨#[97]⟩ : ByteArray), (⟨#[98]⟩ : ByteArray)] : List ByteArray)) (([(([(⟨#[99]⟩ : ByteArray)] : List ByteArray))] : List (List ByteArray)))).bind fun bt240 => (if (t225.length : Int) = 1 then (if 0 < (t225.length : Int) then (if 0 < ((rd_L1 t225 0).length : Int) then (if (rdOf ByteArray.empty (rd_L1 t225 0) 0).toList = ([98] : List UInt8) then (if bt240.2.2 = 0 then (if (bt240.1.length : Int) = 1 then (if 0 < (bt240.1.length : Int) then (if (rdOf ByteArray.empty bt240.1 0).toList = ([98] : List UInt8) then (if (bt240.2.1.length : Int) = 1 then (if 0 < (bt240.2.1.length : Int) then (if 0 < ((rd_L1 bt240.2.1 0).length : Int) then (if (rdOf ByteArray.empty (rd_L1 bt240.2.1 0) 0).toList = ([99] : List UInt8) then ((content_Kind.f k ([] : List ByteArray) (([(([(⟨#[97]⟩ : ByteArray)] : List ByteArray)), (([(⟨#[98]⟩ : ByteArray)] : List ByteArray))] : List (List ByteArray)))).bind fun t261 => (some (t261 == 2))) else (none)) else (none)) else (none)) else (none)) else (none)) else (none)) else (none)) else (none)) else (none)) else (none)) else (none)) else (none)))) = some r := by first | (rw [hy210]; with_reducible exact H) | (have H2_ := (Option.bind_some _ _).symm.trans H; rw [hy210]; with_reducible exact H2_) | (have H2_ := (Option.bind_some _ _).symm.trans H; with_reducible exact H2_) | with_reducible exact H | (rw [hy210]; exact H) | exact H
  have Ny210 := am hy210
  clear hy210
  obtain ⟨y213, hy213⟩ : ∃ y_ : List ByteArray, y_ = (([(⟨#[98]⟩ : ByteArray)] : List ByteArray)) := ⟨_, rfl⟩
  replace H : ((content_Differing.f k y210 (([y213, (([(⟨#[97]⟩ : ByteArray)] : List ByteArray)), (([(⟨#[98]⟩ : ByteArray)] : List ByteArray))] : List (List ByteArray)))).bind fun t225 => ((content_Parts.f k false 1 2 (([(⟨0, 1⟩ : S35)] : List (S35))) (([(⟨#[97]⟩ : ByteArray), (⟨#[98]⟩ : ByteArray)] : List ByteArray)) (([(([(⟨#[99]⟩ : ByteArray)] : List ByteArray))] : List (List ByteArray)))).bind fun bt240 => (if (t225.length : Int) = 1 then (if 0 < (t225.length : Int) then (if 0 < ((rd_L1 t225 0).length : Int) then (if (rdOf ByteArray.empty (rd_L1 t225 0) 0).toList = ([98] : List UInt8) then (if bt240.2.2 = 0 then (if (bt240.1.length : Int) = 1 then (if 0 < (bt240.1.length : Int) then (if (rdOf ByteArray.empty bt240.1 0).toList = ([98] : List UInt8) then (if (bt240.2.1.length : Int) = 1 then (if 0 < (bt240.2.1.length : Int) then (if 0 < ((rd_L1 bt240.2.1 0).length : Int) then (if (rdOf ByteArray.empty (rd_L1 bt240.2.1 0) 0).toList = ([99] : List UInt8) then ((content_Kind.f k ([] : List ByteArray) (([(([(⟨#[97]⟩ : ByteArray)] : List ByteArray)), (([(⟨#[98]⟩ : ByteArray)] : List ByteArray))] : List (List ByteArray)))).bind fun t261 => (some (t261 == 2))) else (none)) else (none)) else (none)) else (none)) else (none)) else (none)) else (none)) else (none)) else (none)) else (none)) else (none)) else (none)))) = some r := by first | (rw [hy213]; with_reducible exact H) | (have H2_ := (Option.bind_some _ _).symm.trans H; rw [hy213]; with_reducible exact H2_) | (have H2_ := (Option.bind_some _ _).symm.trans H; with_reducible exact H2_) | with_reducible exact H | (rw [hy213]; exact H) | exact H
  have Ny213 := am hy213
  clear hy213
  obtain ⟨y216, hy216⟩ : ∃ y_ : List ByteArray, y_ = (([(⟨#[97]⟩ : ByteArray)] : List ByteArray)) := ⟨_, rfl⟩
  replace H : ((content_Differing.f k y210 (([y213, y216, (([(⟨#[98]⟩ : ByteArray)] : List ByteArray))] : List (List ByteArray)))).bind fun t225 => ((content_Parts.f k false 1 2 (([(⟨0, 1⟩ : S35)] : List (S35))) (([(⟨#[97]⟩ : ByteArray), (⟨#[98]⟩ : ByteArray)] : List ByteArray)) (([(([(⟨#[99]⟩ : ByteArray)] : List ByteArray))] : List (List ByteArray)))).bind fun bt240 => (if (t225.length : Int) = 1 then (if 0 < (t225.length : Int) then (if 0 < ((rd_L1 t225 0).length : Int) then (if (rdOf ByteArray.empty (rd_L1 t225 0) 0).toList = ([98] : List UInt8) then (if bt240.2.2 = 0 then (if (bt240.1.length : Int) = 1 then (if 0 < (bt240.1.length : Int) then (if (rdOf ByteArray.empty bt240.1 0).toList = ([98] : List UInt8) then (if (bt240.2.1.length : Int) = 1 then (if 0 < (bt240.2.1.length : Int) then (if 0 < ((rd_L1 bt240.2.1 0).length : Int) then (if (rdOf ByteArray.empty (rd_L1 bt240.2.1 0) 0).toList = ([99] : List UInt8) then ((content_Kind.f k ([] : List ByteArray) (([(([(⟨#[97]⟩ : ByteArray)] : List ByteArray)), (([(⟨#[98]⟩ : ByteArray)] : List ByteArray))] : List (List ByteArray)))).bind fun t261 => (some (t261 == 2))) else (none)) else (none)) else (none)) else (none)) else (none)) else (none)) else (none)) else (none)) else (none)) else (none)) else (none)) else (none)))) = some r := by first | (rw [hy216]; with_reducible exact H) | (have H2_ := (Option.bind_some _ _).symm.trans H; rw [hy216]; with_reducible exact H2_) | (have H2_ := (Option.bind_some _ _).symm.trans H; with_reducible exact H2_) | with_reducible exact H | (rw [hy216]; exact H) | exact H
  have Ny216 := am hy216
  clear hy216
  obtain ⟨y219, hy219⟩ : ∃ y_ : List ByteArray, y_ = (([(⟨#[98]⟩ : ByteArray)] : List ByteArray)) := ⟨_, rfl⟩
  replace H : ((content_Differing.f k y210 (([y213, y216, y219] : List (List ByteArray)))).bind fun t225 => ((content_Parts.f k false 1 2 (([(⟨0, 1⟩ : S35)] : List (S35))) (([(⟨#[97]⟩ : ByteArray), (⟨#[98]⟩ : ByteArray)] : List ByteArray)) (([(([(⟨#[99]⟩ : ByteArray)] : List ByteArray))] : List (List ByteArray)))).bind fun bt240 => (if (t225.length : Int) = 1 then (if 0 < (t225.length : Int) then (if 0 < ((rd_L1 t225 0).length : Int) then (if (rdOf ByteArray.empty (rd_L1 t225 0) 0).toList = ([98] : List UInt8) then (if bt240.2.2 = 0 then (if (bt240.1.length : Int) = 1 then (if 0 < (bt240.1.length : Int) then (if (rdOf ByteArray.empty bt240.1 0).toList = ([98] : List UInt8) then (if (bt240.2.1.length : Int) = 1 then (if 0 < (bt240.2.1.length : Int) then (if 0 < ((rd_L1 bt240.2.1 0).length : Int) then (if (rdOf ByteArray.empty (rd_L1 bt240.2.1 0) 0).toList = ([99] : List UInt8) then ((content_Kind.f k ([] : List ByteArray) (([(([(⟨#[97]⟩ : ByteArray)] : List ByteArray)), (([(⟨#[98]⟩ : ByteArray)] : List ByteArray))] : List (List ByteArray)))).bind fun t261 => (some (t261 == 2))) else (none)) else (none)) else (none)) else (none)) else (none)) else (none)) else (none)) else (none)) else (none)) else (none)) else (none)) else (none)))) = some r := by first | (rw [hy219]; with_reducible exact H) | (have H2_ := (Option.bind_some _ _).symm.trans H; rw [hy219]; with_reducible exact H2_) | (have H2_ := (Option.bind_some _ _).symm.trans H; with_reducible exact H2_) | with_reducible exact H | (rw [hy219]; exact H) | exact H
  have Ny219 := am hy219
  clear hy219
  obtain ⟨y222, hy222⟩ : ∃ y_ : List (List ByteArray), y_ = (([y213, y216, y219] : List (List ByteArray))) := ⟨_, rfl⟩
  replace H : ((content_Differing.f k y210 y222).bind fun t225 => ((content_Parts.f k false 1 2 (([(⟨0, 1⟩ : S35)] : List (S35))) (([(⟨#[97]⟩ : ByteArray), (⟨#[98]⟩ : ByteArray)] : List ByteArray)) (([(([(⟨#[99]⟩ : ByteArray)] : List ByteArray))] : List (List ByteArray)))).bind fun bt240 => (if (t225.length : Int) = 1 then (if 0 < (t225.length : Int) then (if 0 < ((rd_L1 t225 0).length : Int) then (if (rdOf ByteArray.empty (rd_L1 t225 0) 0).toList = ([98] : List UInt8) then (if bt240.2.2 = 0 then (if (bt240.1.length : Int) = 1 then (if 0 < (bt240.1.length : Int) then (if (rdOf ByteArray.empty bt240.1 0).toList = ([98] : List UInt8) then (if (bt240.2.1.length : Int) = 1 then (if 0 < (bt240.2.1.length : Int) then (if 0 < ((rd_L1 bt240.2.1 0).length : Int) then (if (rdOf ByteArray.empty (rd_L1 bt240.2.1 0) 0).toList = ([99] : List UInt8) then ((content_Kind.f k ([] : List ByteArray) (([(([(⟨#[97]⟩ : ByteArray)] : List ByteArray)), (([(⟨#[98]⟩ : ByteArray)] : List ByteArray))] : List (List ByteArray)))).bind fun t261 => (some (t261 == 2))) else (none)) else (none)) else (none)) else (none)) else (none)) else (none)) else (none)) else (none)) else (none)) else (none)) else (none)) else (none)))) = some r := by first | (rw [hy222]; with_reducible exact H) | (have H2_ := (Option.bind_some _ _).symm.trans H; rw [hy222]; with_reducible exact H2_) | (have H2_ := (Option.bind_some _ _).symm.trans H; with_reducible exact H2_) | with_reducible exact H | (rw [hy222]; exact H) | exact H
  have Ny222 := am hy222
  clear hy222
  replace H := Option.bind_eq_some_iff.mp H
  obtain ⟨t225, A10, H⟩ := H
  replace H : ((content_Parts.f k false 1 2 (([(⟨0, 1⟩ : S35)] : List (S35))) (([(⟨#[97]⟩ : ByteArray), (⟨#[98]⟩ : ByteArray)] : List ByteArray)) (([(([(⟨#[99]⟩ : ByteArray)] : List ByteArray))] : List (List ByteArray)))).bind fun bt240 => (if (t225.length : Int) = 1 then (if 0 < (t225.length : Int) then (if 0 < ((rd_L1 t225 0).length : Int) then (if (rdOf ByteArray.empty (rd_L1 t225 0) 0).toList = ([98] : List UInt8) then (if bt240.2.2 = 0 then (if (bt240.1.length : Int) = 1 then (if 0 < (bt240.1.length : Int) then (if (rdOf ByteArray.empty bt240.1 0).toList = ([98] : List UInt8) then (if (bt240.2.1.length : Int) = 1 then (if 0 < (bt240.2.1.length : Int) then (if 0 < ((rd_L1 bt240.2.1 0).length : Int) then (if (rdOf ByteArray.empty (rd_L1 bt240.2.1 0) 0).toList = ([99] : List UInt8) then ((content_Kind.f k ([] : List ByteArray) (([(([(⟨#[97]⟩ : ByteArray)] : List ByteArray)), (([(⟨#[98]⟩ : ByteArray)] : List ByteArray))] : List (List ByteArray)))).bind fun t261 => (some (t261 == 2))) else (none)) else (none)) else (none)) else (none)) else (none)) else (none)) else (none)) else (none)) else (none)) else (none)) else (none)) else (none))) = some r := H
  have A1 := am A10
  clear A10
  obtain ⟨y228, hy228⟩ : ∃ y_ : List (S35), y_ = (([(⟨0, 1⟩ : S35)] : List (S35))) := ⟨_, rfl⟩
  replace H : ((content_Parts.f k false 1 2 y228 (([(⟨#[97]⟩ : ByteArray), (⟨#[98]⟩ : ByteArray)] : List ByteArray)) (([(([(⟨#[99]⟩ : ByteArray)] : List ByteArray))] : List (List ByteArray)))).bind fun bt240 => (if (t225.length : Int) = 1 then (if 0 < (t225.length : Int) then (if 0 < ((rd_L1 t225 0).length : Int) then (if (rdOf ByteArray.empty (rd_L1 t225 0) 0).toList = ([98] : List UInt8) then (if bt240.2.2 = 0 then (if (bt240.1.length : Int) = 1 then (if 0 < (bt240.1.length : Int) then (if (rdOf ByteArray.empty bt240.1 0).toList = ([98] : List UInt8) then (if (bt240.2.1.length : Int) = 1 then (if 0 < (bt240.2.1.length : Int) then (if 0 < ((rd_L1 bt240.2.1 0).length : Int) then (if (rdOf ByteArray.empty (rd_L1 bt240.2.1 0) 0).toList = ([99] : List UInt8) then ((content_Kind.f k ([] : List ByteArray) (([(([(⟨#[97]⟩ : ByteArray)] : List ByteArray)), (([(⟨#[98]⟩ : ByteArray)] : List ByteArray))] : List (List ByteArray)))).bind fun t261 => (some (t261 == 2))) else (none)) else (none)) else (none)) else (none)) else (none)) else (none)) else (none)) else (none)) else (none)) else (none)) else (none)) else (none))) = some r := by first | (rw [hy228]; with_reducible exact H) | (have H2_ := (Option.bind_some _ _).symm.trans H; rw [hy228]; with_reducible exact H2_) | (have H2_ := (Option.bind_some _ _).symm.trans H; with_reducible exact H2_) | with_reducible exact H | (rw [hy228]; exact H) | exact H
  have Ny228 := am hy228
  clear hy228
  obtain ⟨y231, hy231⟩ : ∃ y_ : List ByteArray, y_ = (([(⟨#[97]⟩ : ByteArray), (⟨#[98]⟩ : ByteArray)] : List ByteArray)) := ⟨_, rfl⟩
  replace H : ((content_Parts.f k false 1 2 y228 y231 (([(([(⟨#[99]⟩ : ByteArray)] : List ByteArray))] : List (List ByteArray)))).bind fun bt240 => (if (t225.length : Int) = 1 then (if 0 < (t225.length : Int) then (if 0 < ((rd_L1 t225 0).length : Int) then (if (rdOf ByteArray.empty (rd_L1 t225 0) 0).toList = ([98] : List UInt8) then (if bt240.2.2 = 0 then (if (bt240.1.length : Int) = 1 then (if 0 < (bt240.1.length : Int) then (if (rdOf ByteArray.empty bt240.1 0).toList = ([98] : List UInt8) then (if (bt240.2.1.length : Int) = 1 then (if 0 < (bt240.2.1.length : Int) then (if 0 < ((rd_L1 bt240.2.1 0).length : Int) then (if (rdOf ByteArray.empty (rd_L1 bt240.2.1 0) 0).toList = ([99] : List UInt8) then ((content_Kind.f k ([] : List ByteArray) (([(([(⟨#[97]⟩ : ByteArray)] : List ByteArray)), (([(⟨#[98]⟩ : ByteArray)] : List ByteArray))] : List (List ByteArray)))).bind fun t261 => (some (t261 == 2))) else (none)) else (none)) else (none)) else (none)) else (none)) else (none)) else (none)) else (none)) else (none)) else (none)) else (none)) else (none))) = some r := by first | (rw [hy231]; with_reducible exact H) | (have H2_ := (Option.bind_some _ _).symm.trans H; rw [hy231]; with_reducible exact H2_) | (have H2_ := (Option.bind_some _ _).symm.trans H; with_reducible exact H2_) | with_reducible exact H | (rw [hy231]; exact H) | exact H
  have Ny231 := am hy231
  clear hy231
  obtain ⟨y234, hy234⟩ : ∃ y_ : List ByteArray, y_ = (([(⟨#[99]⟩ : ByteArray)] : List ByteArray)) := ⟨_, rfl⟩
  replace H : ((content_Parts.f k false 1 2 y228 y231 (([y234] : List (List ByteArray)))).bind fun bt240 => (if (t225.length : Int) = 1 then (if 0 < (t225.length : Int) then (if 0 < ((rd_L1 t225 0).length : Int) then (if (rdOf ByteArray.empty (rd_L1 t225 0) 0).toList = ([98] : List UInt8) then (if bt240.2.2 = 0 then (if (bt240.1.length : Int) = 1 then (if 0 < (bt240.1.length : Int) then (if (rdOf ByteArray.empty bt240.1 0).toList = ([98] : List UInt8) then (if (bt240.2.1.length : Int) = 1 then (if 0 < (bt240.2.1.length : Int) then (if 0 < ((rd_L1 bt240.2.1 0).length : Int) then (if (rdOf ByteArray.empty (rd_L1 bt240.2.1 0) 0).toList = ([99] : List UInt8) then ((content_Kind.f k ([] : List ByteArray) (([(([(⟨#[97]⟩ : ByteArray)] : List ByteArray)), (([(⟨#[98]⟩ : ByteArray)] : List ByteArray))] : List (List ByteArray)))).bind fun t261 => (some (t261 == 2))) else (none)) else (none)) else (none)) else (none)) else (none)) else (none)) else (none)) else (none)) else (none)) else (none)) else (none)) else (none))) = some r := by first | (rw [hy234]; with_reducible exact H) | (have H2_ := (Option.bind_some _ _).symm.trans H; rw [hy234]; with_reducible exact H2_) | (have H2_ := (Option.bind_some _ _).symm.trans H; with_reducible exact H2_) | with_reducible exact H | (rw [hy234]; exact H) | exact H
  have Ny234 := am hy234
  clear hy234
  obtain ⟨y237, hy237⟩ : ∃ y_ : List (List ByteArray), y_ = (([y234] : List (List ByteArray))) := ⟨_, rfl⟩
  replace H : ((content_Parts.f k false 1 2 y228 y231 y237).bind fun bt240 => (if (t225.length : Int) = 1 then (if 0 < (t225.length : Int) then (if 0 < ((rd_L1 t225 0).length : Int) then (if (rdOf ByteArray.empty (rd_L1 t225 0) 0).toList = ([98] : List UInt8) then (if bt240.2.2 = 0 then (if (bt240.1.length : Int) = 1 then (if 0 < (bt240.1.length : Int) then (if (rdOf ByteArray.empty bt240.1 0).toList = ([98] : List UInt8) then (if (bt240.2.1.length : Int) = 1 then (if 0 < (bt240.2.1.length : Int) then (if 0 < ((rd_L1 bt240.2.1 0).length : Int) then (if (rdOf ByteArray.empty (rd_L1 bt240.2.1 0) 0).toList = ([99] : List UInt8) then ((content_Kind.f k ([] : List ByteArray) (([(([(⟨#[97]⟩ : ByteArray)] : List ByteArray)), (([(⟨#[98]⟩ : ByteArray)] : List ByteArray))] : List (List ByteArray)))).bind fun t261 => (some (t261 == 2))) else (none)) else (none)) else (none)) else (none)) else (none)) else (none)) else (none)) else (none)) else (none)) else (none)) else (none)) else (none))) = some r := by first | (rw [hy237]; with_reducible exact H) | (have H2_ := (Option.bind_some _ _).symm.trans H; rw [hy237]; with_reducible exact H2_) | (have H2_ := (Option.bind_some _ _).symm.trans H; with_reducible exact H2_) | with_reducible exact H | (rw [hy237]; exact H) | exact H
  have Ny237 := am hy237
  clear hy237
  replace H := Option.bind_eq_some_iff.mp H
  obtain ⟨⟨t240, t243, t246⟩, A20, H⟩ := H
  replace H : (if (t225.length : Int) = 1 then (if 0 < (t225.length : Int) then (if 0 < ((rd_L1 t225 0).length : Int) then (if (rdOf ByteArray.empty (rd_L1 t225 0) 0).toList = ([98] : List UInt8) then (if t246 = 0 then (if (t240.length : Int) = 1 then (if 0 < (t240.length : Int) then (if (rdOf ByteArray.empty t240 0).toList = ([98] : List UInt8) then (if (t243.length : Int) = 1 then (if 0 < (t243.length : Int) then (if 0 < ((rd_L1 t243 0).length : Int) then (if (rdOf ByteArray.empty (rd_L1 t243 0) 0).toList = ([99] : List UInt8) then ((content_Kind.f k ([] : List ByteArray) (([(([(⟨#[97]⟩ : ByteArray)] : List ByteArray)), (([(⟨#[98]⟩ : ByteArray)] : List ByteArray))] : List (List ByteArray)))).bind fun t261 => (some (t261 == 2))) else (none)) else (none)) else (none)) else (none)) else (none)) else (none)) else (none)) else (none)) else (none)) else (none)) else (none)) else (none)) = some r := H
  have A2 := am A20
  clear A20
  by_cases c3 : (t225.length : Int) = 1
  · rw [if_pos c3] at H
    have c3b0 : ((t225.length : Int) == 1) = true := beq_iff_eq.mpr c3
    have c3b1 : ((t225.length : Int) != 1) = false := bne_eq_false_iff_eq.mpr c3
    clear c3
    by_cases c4 : 0 < (t225.length : Int)
    · rw [if_pos c4] at H
      have c4b0 : decide (0 < (t225.length : Int)) = true := decide_eq_true c4
      have c4b1 : decide (0 < t225.length) = true := decide_eq_true (by omega)
      clear c4
      by_cases c5 : 0 < ((rd_L1 t225 0).length : Int)
      · rw [if_pos c5] at H
        have c5b0 : decide (0 < ((rd_L1 t225 0).length : Int)) = true := decide_eq_true c5
        have c5b1 : decide (0 < (rd_L1 t225 0).length) = true := decide_eq_true (by omega)
        clear c5
        by_cases c6 : (rdOf ByteArray.empty (rd_L1 t225 0) 0).toList = ([98] : List UInt8)
        · rw [if_pos c6] at H
          have c6b0 : ((rdOf ByteArray.empty (rd_L1 t225 0) 0).toList == ([98] : List UInt8)) = true := beq_iff_eq.mpr c6
          have c6b1 : ((rdOf ByteArray.empty (rd_L1 t225 0) 0).toList != ([98] : List UInt8)) = false := bne_eq_false_iff_eq.mpr c6
          clear c6
          by_cases c7 : t246 = 0
          · rw [if_pos c7] at H
            have c7b0 : (t246 == 0) = true := beq_iff_eq.mpr c7
            have c7b1 : (t246 != 0) = false := bne_eq_false_iff_eq.mpr c7
            clear c7
            by_cases c8 : (t240.length : Int) = 1
            · rw [if_pos c8] at H
              have c8b0 : ((t240.length : Int) == 1) = true := beq_iff_eq.mpr c8
              have c8b1 : ((t240.length : Int) != 1) = false := bne_eq_false_iff_eq.mpr c8
              clear c8
              by_cases c9 : 0 < (t240.length : Int)
              · rw [if_pos c9] at H
                have c9b0 : decide (0 < (t240.length : Int)) = true := decide_eq_true c9
                have c9b1 : decide (0 < t240.length) = true := decide_eq_true (by omega)
                clear c9
                by_cases c10 : (rdOf ByteArray.empty t240 0).toList = ([98] : List UInt8)
                · rw [if_pos c10] at H
                  have c10b0 : ((rdOf ByteArray.empty t240 0).toList == ([98] : List UInt8)) = true := beq_iff_eq.mpr c10
                  have c10b1 : ((rdOf ByteArray.empty t240 0).toList != ([98] : List UInt8)) = false := bne_eq_false_iff_eq.mpr c10
                  clear c10
                  by_cases c11 : (t243.length : Int) = 1
                  · rw [if_pos c11] at H
                    have c11b0 : ((t243.length : Int) == 1) = true := beq_iff_eq.mpr c11
                    have c11b1 : ((t243.length : Int) != 1) = false := bne_eq_false_iff_eq.mpr c11
                    clear c11
                    by_cases c12 : 0 < (t243.length : Int)
                    · rw [if_pos c12] at H
                      have c12b0 : decide (0 < (t243.length : Int)) = true := decide_eq_true c12
                      have c12b1 : decide (0 < t243.length) = true := decide_eq_true (by omega)
                      clear c12
                      by_cases c13 : 0 < ((rd_L1 t243 0).length : Int)
                      · rw [if_pos c13] at H
                        have c13b0 : decide (0 < ((rd_L1 t243 0).length : Int)) = true := decide_eq_true c13
                        have c13b1 : decide (0 < (rd_L1 t243 0).length) = true := decide_eq_true (by omega)
                        clear c13
                        by_cases c14 : (rdOf ByteArray.empty (rd_L1 t243 0) 0).toList = ([99] : List UInt8)
                        · rw [if_pos c14] at H
                          have c14b0 : ((rdOf ByteArray.empty (rd_L1 t243 0) 0).toList == ([99] : List UInt8)) = true := beq_iff_eq.mpr c14
                          have c14b1 : ((rdOf ByteArray.empty (rd_L1 t243 0) 0).toList != ([99] : List UInt8)) = false := bne_eq_false_iff_eq.mpr c14
                          clear c14
                          obtain ⟨y252, hy252⟩ : ∃ y_ : List ByteArray, y_ = (([(⟨#[97]⟩ : ByteArray)] : List ByteArray)) := ⟨_, rfl⟩
                          replace H : ((content_Kind.f k ([] : List ByteArray) (([y252, (([(⟨#[98]⟩ : ByteArray)] : List ByteArray))] : List (List ByteArray)))).bind fun t261 => (some (t261 == 2))) = some r := by first | (rw [hy252]; with_reducible exact H) | (have H2_ := (Option.bind_some _ _).symm.trans H; rw [hy252]; with_reducible exact H2_) | (have H2_ := (Option.bind_some _ _).symm.trans H; with_reducible exact H2_) | with_reducible exact H | (rw [hy252]; exact H) | exact H
                          have Ny252 := am hy252
                          clear hy252
                          obtain ⟨y255, hy255⟩ : ∃ y_ : List ByteArray, y_ = (([(⟨#[98]⟩ : ByteArray)] : List ByteArray)) := ⟨_, rfl⟩
                          replace H : ((content_Kind.f k ([] : List ByteArray) (([y252, y255] : List (List ByteArray)))).bind fun t261 => (some (t261 == 2))) = some r := by first | (rw [hy255]; with_reducible exact H) | (have H2_ := (Option.bind_some _ _).symm.trans H; rw [hy255]; with_reducible exact H2_) | (have H2_ := (Option.bind_some _ _).symm.trans H; with_reducible exact H2_) | with_reducible exact H | (rw [hy255]; exact H) | exact H
                          have Ny255 := am hy255
                          clear hy255
                          obtain ⟨y258, hy258⟩ : ∃ y_ : List (List ByteArray), y_ = (([y252, y255] : List (List ByteArray))) := ⟨_, rfl⟩
                          replace H : ((content_Kind.f k ([] : List ByteArray) y258).bind fun t261 => (some (t261 == 2))) = some r := by first | (rw [hy258]; with_reducible exact H) | (have H2_ := (Option.bind_some _ _).symm.trans H; rw [hy258]; with_reducible exact H2_) | (have H2_ := (Option.bind_some _ _).symm.trans H; with_reducible exact H2_) | with_reducible exact H | (rw [hy258]; exact H) | exact H
                          have Ny258 := am hy258
                          clear hy258
                          replace H := Option.bind_eq_some_iff.mp H
                          obtain ⟨t261, A150, H⟩ := H
                          replace H : (some (t261 == 2)) = some r := H
                          have A15 := am A150
                          clear A150
                          obtain rfl := Option.some.inj H
                          go_enter Try.func25, Try.ntmps25
                          go_wp2_with (first | ((with_reducible refine gate_dst (N := 5) rfl ?_); (try (refine gate_guard (by rfl) ?_; dsimp only)); refine Kd.R_lit Kd.string _ 9 ?hg (N := 5) ?hd (xs := ([(⟨#[97]⟩ : ByteArray)] : List ByteArray)) (inner := [.string (⟨#[97]⟩ : ByteArray)]) (ok := fun _ => True) (okp := fun _ => True) ?hr ?hp (fun _ hk => hk) trivial (Below.refl _ _) (Nat.le_refl _) (by simp) ?_; (case hd => rfl); (case hg => rfl); (case hr => first | (go_simp; done) | (go_simp; rfl)); (case hp => exact (Reps.one (show Kd.M Kd.string _ _ _ (⟨#[97]⟩ : ByteArray) [.string (⟨#[97]⟩ : ByteArray)] from rfl) (Reps.none _ _))); intro v211 w16 ho17 hb hg_ hnew_; clear hg_ hnew_; rw [← Ny210.out] at ho17; have n0_ := am (Kd.R_lower ho17 (below_size (by repeat (with_reducible first | exact HB.out | apply bA | apply bN | apply bD)))); have n1_ := am (below_step (by repeat (with_reducible first | exact HB.out | apply bA | apply bN | apply bD)) hb); clear HB; have HO212 := n0_; have HB := n1_; clear n0_ n1_; clear hb ho17) | ((with_reducible refine gate_dst (N := 6) rfl ?_); (try (refine gate_guard (by rfl) ?_; dsimp only)); refine Kd.R_lit Kd.string _ 9 ?hg (N := 6) ?hd (xs := ([(⟨#[98]⟩ : ByteArray)] : List ByteArray)) (inner := [.string (⟨#[98]⟩ : ByteArray)]) (ok := fun _ => True) (okp := fun _ => True) ?hr ?hp (fun _ hk => hk) trivial (Below.refl _ _) (Nat.le_refl _) (by simp) ?_; (case hd => rfl); (case hg => rfl); (case hr => first | (go_simp; done) | (go_simp; rfl)); (case hp => exact (Reps.one (show Kd.M Kd.string _ _ _ (⟨#[98]⟩ : ByteArray) [.string (⟨#[98]⟩ : ByteArray)] from rfl) (Reps.none _ _))); intro v214 w18 ho19 hb hg_ hnew_; clear hg_ hnew_; rw [← Ny213.out] at ho19; have n0_ := am (Kd.R_elder' (by (with_reducible repeat (first | apply rA | apply rN | apply rD)); exact HO212.out) (Kd.R_base ho19) hb); have n1_ := am (Kd.R_lower (Kd.R_new' ho19 (Kd.R_lt (by (with_reducible repeat (first | apply rA | apply rN | apply rD)); exact HO212.out))) (below_size (by repeat (with_reducible first | exact HB.out | apply bA | apply bN | apply bD)))); have n2_ := am (below_step (by repeat (with_reducible first | exact HB.out | apply bA | apply bN | apply bD)) hb); clear HO212; clear HB; have HO212 := n0_; have HO215 := n1_; have HB := n2_; clear n0_ n1_ n2_; clear hb ho19) | ((with_reducible refine gate_dst (N := 7) rfl ?_); (try (refine gate_guard (by rfl) ?_; dsimp only)); refine Kd.R_lit Kd.string _ 9 ?hg (N := 7) ?hd (xs := ([(⟨#[97]⟩ : ByteArray)] : List ByteArray)) (inner := [.string (⟨#[97]⟩ : ByteArray)]) (ok := fun _ => True) (okp := fun _ => True) ?hr ?hp (fun _ hk => hk) trivial (Below.refl _ _) (Nat.le_refl _) (by simp) ?_; (case hd => rfl); (case hg => rfl); (case hr => first | (go_simp; done) | (go_simp; rfl)); (case hp => exact (Reps.one (show Kd.M Kd.string _ _ _ (⟨#[97]⟩ : ByteArray) [.string (⟨#[97]⟩ : ByteArray)] from rfl) (Reps.none _ _))); intro v217 w20 ho21 hb hg_ hnew_; clear hg_ hnew_; rw [← Ny216.out] at ho21; have n0_ := am (Kd.R_elder' (by (with_reducible repeat (first | apply rA | apply rN | apply rD)); exact HO212.out) (Kd.R_base ho21) hb); have n1_ := am (Kd.R_elder' (by (with_reducible repeat (first | apply rA | apply rN | apply rD)); exact HO215.out) (Kd.R_base ho21) hb); have n2_ := am (Kd.R_lower (Kd.R_new' (Kd.R_new' ho21 (Kd.R_lt (by (with_reducible repeat (first | apply rA | apply rN | apply rD)); exact HO212.out))) (Kd.R_lt (by (with_reducible repeat (first | apply rA | apply rN | apply rD)); exact HO215.out))) (below_size (by repeat (with_reducible first | exact HB.out | apply bA | apply bN | apply bD)))); have n3_ := am (below_step (by repeat (with_reducible first | exact HB.out | apply bA | apply bN | apply bD)) hb); clear HO212; clear HO215; clear HB; have HO212 := n0_; have HO215 := n1_; have HO218 := n2_; have HB := n3_; clear n0_ n1_ n2_ n3_; clear hb ho21) | ((with_reducible refine gate_dst (N := 8) rfl ?_); (try (refine gate_guard (by rfl) ?_; dsimp only)); refine Kd.R_lit Kd.string _ 9 ?hg (N := 8) ?hd (xs := ([(⟨#[98]⟩ : ByteArray)] : List ByteArray)) (inner := [.string (⟨#[98]⟩ : ByteArray)]) (ok := fun _ => True) (okp := fun _ => True) ?hr ?hp (fun _ hk => hk) trivial (Below.refl _ _) (Nat.le_refl _) (by simp) ?_; (case hd => rfl); (case hg => rfl); (case hr => first | (go_simp; done) | (go_simp; rfl)); (case hp => exact (Reps.one (show Kd.M Kd.string _ _ _ (⟨#[98]⟩ : ByteArray) [.string (⟨#[98]⟩ : ByteArray)] from rfl) (Reps.none _ _))); intro v220 w22 ho23 hb hg_ hnew_; clear hg_ hnew_; rw [← Ny219.out] at ho23; have n0_ := am (Kd.R_elder' (by (with_reducible repeat (first | apply rA | apply rN | apply rD)); exact HO212.out) (Kd.R_base ho23) hb); have n1_ := am (Kd.R_elder' (by (with_reducible repeat (first | apply rA | apply rN | apply rD)); exact HO215.out) (Kd.R_base ho23) hb); have n2_ := am (Kd.R_elder' (by (with_reducible repeat (first | apply rA | apply rN | apply rD)); exact HO218.out) (Kd.R_base ho23) hb); have n3_ := am (Kd.R_lower (Kd.R_new' (Kd.R_new' (Kd.R_new' ho23 (Kd.R_lt (by (with_reducible repeat (first | apply rA | apply rN | apply rD)); exact HO212.out))) (Kd.R_lt (by (with_reducible repeat (first | apply rA | apply rN | apply rD)); exact HO215.out))) (Kd.R_lt (by (with_reducible repeat (first | apply rA | apply rN | apply rD)); exact HO218.out))) (below_size (by repeat (with_reducible first | exact HB.out | apply bA | apply bN | apply bD)))); have n4_ := am (below_step (by repeat (with_reducible first | exact HB.out | apply bA | apply bN | apply bD)) hb); clear HO212; clear HO215; clear HO218; clear HB; have HO212 := n0_; have HO215 := n1_; have HO218 := n2_; have HO221 := n3_; have HB := n4_; clear n0_ n1_ n2_ n3_ n4_; clear hb ho23; obtain ⟨Ao24, co24, eo24⟩ := Kd.R_slice HO215.out; subst eo24; obtain ⟨Ao25, co25, eo25⟩ := Kd.R_slice HO218.out; subst eo25; obtain ⟨Ao26, co26, eo26⟩ := Kd.R_slice HO221.out; subst eo26) | ((with_reducible refine gate_dst (N := 9) rfl ?_); (try (refine gate_guard (by rfl) ?_; dsimp only)); refine Kd.N_lit (Kd.slice 9 Kd.string) _ 22 ?hg (N' := 9) ?hd (xs := ([y213, y216, y219] : List (List ByteArray))) (inner := [.slice Ao24 y213.length co24, .slice Ao25 y216.length co25, .slice Ao26 y219.length co26]) (ok := (fun k_ => some k_ ≠ (v211 : Value).ownBlock)) (okp := (fun k_ => some k_ ≠ (v211 : Value).ownBlock)) ?hr ?hp (fun _ hk => hk) ((show ∀ k_, w22.heap.size ≤ k_ → (fun k_ => some k_ ≠ (v211 : Value).ownBlock) k_ from fun k_ hk => Kd.fresh' (Kd.R_lt (by (with_reducible repeat (first | apply rA | apply rN | apply rD)); exact HO212.out)) k_ hk) _ (Nat.le_refl _)) (Below.refl _ _) (Nat.le_refl _) (by simp) ?_; (case hd => rfl); (case hg => rfl); (case hr => first | (go_simp; done) | (go_simp; rfl)); (case hp => exact (Reps.one (show Kd.FK (Kd.slice 9 Kd.string) _ _ y213 [.slice Ao24 y213.length co24] from (Kd.FK_slice_mk (Kd.R_reads' (Kd.R_mono (ok' := (fun k_ => some k_ ≠ (v211 : Value).ownBlock)) (HO215.out) (fun k_ hk => hk.1.1.2))).2.1 (Kd.R_F (Kd.R_mono (ok' := (fun k_ => some k_ ≠ (v211 : Value).ownBlock)) (HO215.out) (fun k_ hk => hk.1.1.2))))) (Reps.one (show Kd.FK (Kd.slice 9 Kd.string) _ _ y216 [.slice Ao25 y216.length co25] from (Kd.FK_slice_mk (Kd.R_reads' (Kd.R_mono (ok' := (fun k_ => some k_ ≠ (v211 : Value).ownBlock)) (HO218.out) (fun k_ hk => hk.1.1.2))).2.1 (Kd.R_F (Kd.R_mono (ok' := (fun k_ => some k_ ≠ (v211 : Value).ownBlock)) (HO218.out) (fun k_ hk => hk.1.1.2))))) (Reps.one (show Kd.FK (Kd.slice 9 Kd.string) _ _ y219 [.slice Ao26 y219.length co26] from (Kd.FK_slice_mk (Kd.R_reads' (Kd.R_mono (ok' := (fun k_ => some k_ ≠ (v211 : Value).ownBlock)) (HO221.out) (fun k_ hk => hk.1.1.2))).2.1 (Kd.R_F (Kd.R_mono (ok' := (fun k_ => some k_ ≠ (v211 : Value).ownBlock)) (HO221.out) (fun k_ hk => hk.1.1.2))))) (Reps.none _ _))))); intro v223 w27 ho28 hb hg_ hnew_; clear hg_ hnew_; rw [← Ny222.out] at ho28; have n0_ := am (Kd.R_below (by (with_reducible repeat (first | apply rA | apply rN | apply rD)); exact HO212.out) hb); have n1_ := am (Kd.N_lower ho28 (below_size (by repeat (with_reducible first | exact HB.out | apply bA | apply bN | apply bD)))); have n2_ := am (below_step (by repeat (with_reducible first | exact HB.out | apply bA | apply bN | apply bD)) hb); clear HO212; clear HB; clear HO215; clear HO218; clear HO221; have HO212 := n0_; have HO224 := n1_; have HB := n2_; clear n0_ n1_ n2_; clear hb ho28; obtain ⟨Ao29, co29, eo29⟩ := Kd.R_slice HO212.out; subst eo29; obtain ⟨Ao30, co30, eo30⟩ := Kd.N_slice HO224.out; subst eo30) | ((with_reducible refine gate_callee (f := 29) rfl ?_); refine goesL_ (some 10) rfl rfl Try.func29 (by kernel_rfl) rfl #[.slice Ao29 y210.length co29, .slice Ao30 y222.length co30] rfl (by (try simp only [List.map_toArray, List.map_cons, List.map_nil]); first | done | rfl | (simp only [List.length_drop, List.length_take]; rfl)) ?_; (with_reducible refine (content_Differing.calls k _ _ y210 (fun k_ => some k_ ≠ (.slice Ao29 y210.length co29 : Value).ownBlock) _ _ y222 t225 _ ?side1 ?side2 ?side3 A1.out).mono ?_); (case side1 => repeat (first | exact (Kd.R_reads' HO212.out).2.2 | (with_reducible refine Kd.C_alloc ?_ _) | (with_reducible refine Kd.C_drewN ?_ _) | (with_reducible refine Kd.C_drew ?_))); (case side2 => exact (Kd.R_reads' HO212.out).2.1); (case side3 => exact Kd.N_V (HO224.out)); rintro e w31 ⟨v226, rfl, ho0, hb⟩; refine ⟨_, rfl, ?_⟩; have n0_ := am (Kd.R_below (by (with_reducible repeat (first | apply rA | apply rN | apply rD)); exact HO212.out) hb); have n1_ := am (Kd.N_elder' (by (with_reducible repeat (first | apply nA | apply nN | apply nD)); exact HO224.out) (Kd.N_base ho0) hb); have n2_ := am (Kd.N_lower (Kd.N_mono (ok' := fun k_ => some k_ ≠ (.slice Ao29 y210.length co29 : Value).ownBlock) ho0 (fun k_ hk_ => Or.elim hk_ (fun hs_ => hs_) (fun hn_ => (Kd.fresh' (Kd.R_lt (by (with_reducible repeat (first | apply rA | apply rN | apply rD)); exact HO212.out)) k_ hn_)))) (below_size (by repeat (with_reducible first | exact HB.out | apply bA | apply bN | apply bD)))); have n3_ := am (below_step (by repeat (with_reducible first | exact HB.out | apply bA | apply bN | apply bD)) hb); clear HO212; clear HO224; clear HB; have HO212 := n0_; have HO224 := n1_; have HO227 := n2_; have HB := n3_; clear n0_ n1_ n2_ n3_; (try clear hb); (try clear hb2); (try clear hk); (try clear hi); (try clear ho0)) | ((with_reducible refine gate_dst (N := 14) rfl ?_); (try (refine gate_guard (by rfl) ?_; dsimp only)); refine Kd.R_lit k35 _ 35 ?hg (N := 14) ?hd (xs := ([(⟨0, 1⟩ : S35)] : List (S35))) (inner := [.int .i64 0, .int .i64 1]) (ok := fun _ => True) (okp := fun _ => True) ?hr ?hp (fun _ hk => hk) trivial (Below.refl _ _) (Nat.le_refl _) (by simp) ?_; (case hd => rfl); (case hg => rfl); (case hr => first | (go_simp; done) | (go_simp; rfl)); (case hp => exact (Reps.c2 (show Kd.M k35 _ _ _ (⟨0, 1⟩ : S35) [.int .i64 0, .int .i64 1] from (k35_mkM _ _ _ (⟨0, 1⟩ : S35) )) (Reps.none _ _))); intro v229 w32 ho33 hb hg_ hnew_; clear hg_ hnew_; rw [← Ny228.out] at ho33; have n0_ := am (Kd.R_below (by (with_reducible repeat (first | apply rA | apply rN | apply rD)); exact HO212.out) hb); have n1_ := am (Kd.N_elder' (by (with_reducible repeat (first | apply nA | apply nN | apply nD)); exact HO224.out) (Kd.R_base ho33) hb); have n2_ := am (Kd.N_elder' (by (with_reducible repeat (first | apply nA | apply nN | apply nD)); exact HO227.out) (Kd.R_base ho33) hb); have n3_ := am (Kd.R_lower ho33 (below_size (by repeat (with_reducible first | exact HB.out | apply bA | apply bN | apply bD)))); have n4_ := am (below_step (by repeat (with_reducible first | exact HB.out | apply bA | apply bN | apply bD)) hb); clear HO212; clear HO224; clear HO227; clear HB; have HO212 := n0_; have HO224 := n1_; have HO227 := n2_; have HO230 := n3_; have HB := n4_; clear n0_ n1_ n2_ n3_ n4_; clear hb ho33; obtain ⟨Ao34, co34, eo34⟩ := Kd.R_slice HO230.out; subst eo34) | ((with_reducible refine gate_dst (N := 16) rfl ?_); (try (refine gate_guard (by rfl) ?_; dsimp only)); refine Kd.R_lit Kd.string _ 9 ?hg (N := 16) ?hd (xs := ([(⟨#[97]⟩ : ByteArray), (⟨#[98]⟩ : ByteArray)] : List ByteArray)) (inner := [.string (⟨#[97]⟩ : ByteArray), .string (⟨#[98]⟩ : ByteArray)]) (ok := fun _ => True) (okp := fun _ => True) ?hr ?hp (fun _ hk => hk) trivial (Below.refl _ _) (Nat.le_refl _) (by simp) ?_; (case hd => rfl); (case hg => rfl); (case hr => first | (go_simp; done) | (go_simp; rfl)); (case hp => exact (Reps.one (show Kd.M Kd.string _ _ _ (⟨#[97]⟩ : ByteArray) [.string (⟨#[97]⟩ : ByteArray)] from rfl) (Reps.one (show Kd.M Kd.string _ _ _ (⟨#[98]⟩ : ByteArray) [.string (⟨#[98]⟩ : ByteArray)] from rfl) (Reps.none _ _)))); intro v232 w35 ho36 hb hg_ hnew_; clear hg_ hnew_; rw [← Ny231.out] at ho36; have n0_ := am (Kd.R_elder' (by (with_reducible repeat (first | apply rA | apply rN | apply rD)); exact HO212.out) (Kd.R_base ho36) hb); have n1_ := am (Kd.N_elder' (by (with_reducible repeat (first | apply nA | apply nN | apply nD)); exact HO224.out) (Kd.R_base ho36) hb); have n2_ := am (Kd.N_elder' (by (with_reducible repeat (first | apply nA | apply nN | apply nD)); exact HO227.out) (Kd.R_base ho36) hb); have n3_ := am (Kd.R_below (by (with_reducible repeat (first | apply rA | apply rN | apply rD)); exact HO230.out) hb); have n4_ := am (Kd.R_lower (Kd.R_new' ho36 (Kd.R_lt (by (with_reducible repeat (first | apply rA | apply rN | apply rD)); exact HO212.out))) (below_size (by repeat (with_reducible first | exact HB.out | apply bA | apply bN | apply bD)))); have n5_ := am (below_step (by repeat (with_reducible first | exact HB.out | apply bA | apply bN | apply bD)) hb); clear HO212; clear HO224; clear HO227; clear HO230; clear HB; have HO212 := n0_; have HO224 := n1_; have HO227 := n2_; have HO230 := n3_; have HO233 := n4_; have HB := n5_; clear n0_ n1_ n2_ n3_ n4_ n5_; clear hb ho36) | ((with_reducible refine gate_dst (N := 17) rfl ?_); (try (refine gate_guard (by rfl) ?_; dsimp only)); refine Kd.R_lit Kd.string _ 9 ?hg (N := 17) ?hd (xs := ([(⟨#[99]⟩ : ByteArray)] : List ByteArray)) (inner := [.string (⟨#[99]⟩ : ByteArray)]) (ok := fun _ => True) (okp := fun _ => True) ?hr ?hp (fun _ hk => hk) trivial (Below.refl _ _) (Nat.le_refl _) (by simp) ?_; (case hd => rfl); (case hg => rfl); (case hr => first | (go_simp; done) | (go_simp; rfl)); (case hp => exact (Reps.one (show Kd.M Kd.string _ _ _ (⟨#[99]⟩ : ByteArray) [.string (⟨#[99]⟩ : ByteArray)] from rfl) (Reps.none _ _))); intro v235 w37 ho38 hb hg_ hnew_; clear hg_ hnew_; rw [← Ny234.out] at ho38; have n0_ := am (Kd.R_elder' (by (with_reducible repeat (first | apply rA | apply rN | apply rD)); exact HO212.out) (Kd.R_base ho38) hb); have n1_ := am (Kd.N_elder' (by (with_reducible repeat (first | apply nA | apply nN | apply nD)); exact HO224.out) (Kd.R_base ho38) hb); have n2_ := am (Kd.N_elder' (by (with_reducible repeat (first | apply nA | apply nN | apply nD)); exact HO227.out) (Kd.R_base ho38) hb); have n3_ := am (Kd.R_below (by (with_reducible repeat (first | apply rA | apply rN | apply rD)); exact HO230.out) hb); have n4_ := am (Kd.R_elder' (by (with_reducible repeat (first | apply rA | apply rN | apply rD)); exact HO233.out) (Kd.R_base ho38) hb); have n5_ := am (Kd.R_lower (Kd.R_new' (Kd.R_new' ho38 (Kd.R_lt (by (with_reducible repeat (first | apply rA | apply rN | apply rD)); exact HO212.out))) (Kd.R_lt (by (with_reducible repeat (first | apply rA | apply rN | apply rD)); exact HO233.out))) (below_size (by repeat (with_reducible first | exact HB.out | apply bA | apply bN | apply bD)))); have n6_ := am (below_step (by repeat (with_reducible first | exact HB.out | apply bA | apply bN | apply bD)) hb); clear HO212; clear HO224; clear HO227; clear HO230; clear HO233; clear HB; have HO212 := n0_; have HO224 := n1_; have HO227 := n2_; have HO230 := n3_; have HO233 := n4_; have HO236 := n5_; have HB := n6_; clear n0_ n1_ n2_ n3_ n4_ n5_ n6_; clear hb ho38; obtain ⟨Ao39, co39, eo39⟩ := Kd.R_slice HO236.out; subst eo39) | ((with_reducible refine gate_dst (N := 18) rfl ?_); (try (refine gate_guard (by rfl) ?_; dsimp only)); refine Kd.N_lit (Kd.slice 9 Kd.string) _ 22 ?hg (N' := 18) ?hd (xs := ([y234] : List (List ByteArray))) (inner := [.slice Ao39 y234.length co39]) (ok := (fun k_ => some k_ ≠ (.slice Ao29 y210.length co29 : Value).ownBlock ∧ some k_ ≠ (.slice Ao30 y222.length co30 : Value).ownBlock ∧ some k_ ≠ (v226 : Value).ownBlock ∧ some k_ ≠ (.slice Ao34 y228.length co34 : Value).ownBlock ∧ some k_ ≠ (v232 : Value).ownBlock)) (okp := (fun k_ => some k_ ≠ (.slice Ao29 y210.length co29 : Value).ownBlock ∧ some k_ ≠ (.slice Ao30 y222.length co30 : Value).ownBlock ∧ some k_ ≠ (v226 : Value).ownBlock ∧ some k_ ≠ (.slice Ao34 y228.length co34 : Value).ownBlock ∧ some k_ ≠ (v232 : Value).ownBlock)) ?hr ?hp (fun _ hk => hk) ((show ∀ k_, w37.heap.size ≤ k_ → (fun k_ => some k_ ≠ (.slice Ao29 y210.length co29 : Value).ownBlock ∧ some k_ ≠ (.slice Ao30 y222.length co30 : Value).ownBlock ∧ some k_ ≠ (v226 : Value).ownBlock ∧ some k_ ≠ (.slice Ao34 y228.length co34 : Value).ownBlock ∧ some k_ ≠ (v232 : Value).ownBlock) k_ from fun k_ hk => ⟨Kd.fresh' (Kd.R_lt (by (with_reducible repeat (first | apply rA | apply rN | apply rD)); exact HO212.out)) k_ hk, Kd.fresh' (Kd.N_lt (by (with_reducible repeat (first | apply nA | apply nN | apply nD)); exact HO224.out)) k_ hk, Kd.fresh' (Kd.N_lt (by (with_reducible repeat (first | apply nA | apply nN | apply nD)); exact HO227.out)) k_ hk, Kd.fresh' (Kd.R_lt (by (with_reducible repeat (first | apply rA | apply rN | apply rD)); exact HO230.out)) k_ hk, Kd.fresh' (Kd.R_lt (by (with_reducible repeat (first | apply rA | apply rN | apply rD)); exact HO233.out)) k_ hk⟩) _ (Nat.le_refl _)) (Below.refl _ _) (Nat.le_refl _) (by simp) ?_; (case hd => rfl); (case hg => rfl); (case hr => first | (go_simp; done) | (go_simp; rfl)); (case hp => exact (Reps.one (show Kd.FK (Kd.slice 9 Kd.string) _ _ y234 [.slice Ao39 y234.length co39] from (Kd.FK_slice_mk (Kd.R_reads' (Kd.R_mono (ok' := (fun k_ => some k_ ≠ (.slice Ao29 y210.length co29 : Value).ownBlock ∧ some k_ ≠ (.slice Ao30 y222.length co30 : Value).ownBlock ∧ some k_ ≠ (v226 : Value).ownBlock ∧ some k_ ≠ (.slice Ao34 y228.length co34 : Value).ownBlock ∧ some k_ ≠ (v232 : Value).ownBlock)) (Kd.R_apart' (Kd.R_apart' (Kd.R_apart' (HO236.out) (Kd.N_typed HO224.out) (by decide)) (Kd.N_typed HO227.out) (by decide)) (Kd.R_typed HO230.out) (by decide)) (fun k_ hk => ⟨hk.1.1.1.1.2, ⟨hk.1.1.2, ⟨hk.1.2, ⟨hk.2, hk.1.1.1.2⟩⟩⟩⟩))).2.1 (Kd.R_F (Kd.R_mono (ok' := (fun k_ => some k_ ≠ (.slice Ao29 y210.length co29 : Value).ownBlock ∧ some k_ ≠ (.slice Ao30 y222.length co30 : Value).ownBlock ∧ some k_ ≠ (v226 : Value).ownBlock ∧ some k_ ≠ (.slice Ao34 y228.length co34 : Value).ownBlock ∧ some k_ ≠ (v232 : Value).ownBlock)) (Kd.R_apart' (Kd.R_apart' (Kd.R_apart' (HO236.out) (Kd.N_typed HO224.out) (by decide)) (Kd.N_typed HO227.out) (by decide)) (Kd.R_typed HO230.out) (by decide)) (fun k_ hk => ⟨hk.1.1.1.1.2, ⟨hk.1.1.2, ⟨hk.1.2, ⟨hk.2, hk.1.1.1.2⟩⟩⟩⟩))))) (Reps.none _ _))); intro v238 w40 ho41 hb hg_ hnew_; clear hg_ hnew_; rw [← Ny237.out] at ho41; have n0_ := am (Kd.R_below (by (with_reducible repeat (first | apply rA | apply rN | apply rD)); exact HO212.out) hb); have n1_ := am (Kd.N_elder' (by (with_reducible repeat (first | apply nA | apply nN | apply nD)); exact HO224.out) (Kd.N_base ho41) hb); have n2_ := am (Kd.N_elder' (by (with_reducible repeat (first | apply nA | apply nN | apply nD)); exact HO227.out) (Kd.N_base ho41) hb); have n3_ := am (Kd.R_below (by (with_reducible repeat (first | apply rA | apply rN | apply rD)); exact HO230.out) hb); have n4_ := am (Kd.R_below (by (with_reducible repeat (first | apply rA | apply rN | apply rD)); exact HO233.out) hb); have n5_ := am (Kd.N_lower ho41 (below_size (by repeat (with_reducible first | exact HB.out | apply bA | apply bN | apply bD)))); have n6_ := am (below_step (by repeat (with_reducible first | exact HB.out | apply bA | apply bN | apply bD)) hb); clear HO212; clear HO224; clear HO227; clear HO230; clear HO233; clear HB; clear HO236; have HO212 := n0_; have HO224 := n1_; have HO227 := n2_; have HO230 := n3_; have HO233 := n4_; have HO239 := n5_; have HB := n6_; clear n0_ n1_ n2_ n3_ n4_ n5_ n6_; clear hb ho41; obtain ⟨Ao42, co42, eo42⟩ := Kd.R_slice HO233.out; subst eo42; obtain ⟨Ao43, co43, eo43⟩ := Kd.N_slice HO239.out; subst eo43) | ((with_reducible refine gate_callee (f := 26) rfl ?_); refine goesL_ (some 19) rfl rfl Try.func26 (by kernel_rfl) rfl #[.agg #[.bool false, .int .i64 1, .int .i64 2, .slice Ao34 y228.length co34], .slice Ao42 y231.length co42, .slice Ao43 y237.length co43] rfl (by (try simp only [List.map_toArray, List.map_cons, List.map_nil]); first | done | rfl | (simp only [List.length_drop, List.length_take]; rfl)) ?_; (with_reducible refine (content_Parts.calls k false 1 2 _ _ y228 (fun k_ => some k_ = (.slice Ao42 y231.length co42 : Value).ownBlock) _ _ y231 (fun k_ => (some k_ ≠ (.slice Ao29 y210.length co29 : Value).ownBlock ∧ (some k_ ≠ (.slice Ao30 y222.length co30 : Value).ownBlock ∧ (some k_ ≠ (v226 : Value).ownBlock ∧ (some k_ ≠ (.slice Ao34 y228.length co34 : Value).ownBlock ∧ some k_ ≠ (.slice Ao42 y231.length co42 : Value).ownBlock))))) _ _ y237 t240 t243 t246 _ ?side1 ?side2 ?side3 ?side4 A2.out).mono ?_); (case side1 => repeat (first | exact (Kd.R_reads' HO230.out).2.2 | (with_reducible refine Kd.C_alloc ?_ _) | (with_reducible refine Kd.C_drewN ?_ _) | (with_reducible refine Kd.C_drew ?_))); (case side2 => exact (Kd.R_reads' HO230.out).2.1); (case side3 => exact Kd.R_V (Kd.R_tight rfl (Kd.R_apart' (Kd.R_apart' (Kd.R_apart' (Kd.R_apart' (HO233.out) (Kd.N_typed HO224.out) (by decide)) (Kd.N_typed HO227.out) (by decide)) (Kd.R_typed HO230.out) (by decide)) (Kd.N_typed HO239.out) (by decide)))); (case side4 => exact Kd.N_V (HO239.out)); rintro e w44 ⟨v241, v244, rfl, ho0, ho1, hb⟩; refine ⟨_, rfl, ?_⟩; have n0_ := am (Kd.R_below (by (with_reducible repeat (first | apply rA | apply rN | apply rD)); exact HO212.out) hb); have n1_ := am (Kd.N_elder' (by (with_reducible repeat (first | apply nA | apply nN | apply nD)); exact HO224.out) (Kd.N_base ho1) hb); have n2_ := am (Kd.N_elder' (by (with_reducible repeat (first | apply nA | apply nN | apply nD)); exact HO227.out) (Kd.N_base ho1) hb); have n3_ := am (Kd.R_below (by (with_reducible repeat (first | apply rA | apply rN | apply rD)); exact HO230.out) hb); have n4_ := am (Kd.R_below (by (with_reducible repeat (first | apply rA | apply rN | apply rD)); exact HO233.out) hb); have n5_ := am (Kd.N_elder' (by (with_reducible repeat (first | apply nA | apply nN | apply nD)); exact HO239.out) (Kd.N_base ho1) hb); have n6_ := am (Kd.V_lower (Kd.V_mono (ok' := fun k_ => some k_ ≠ (v244 : Value).ownBlock ∧ some k_ ≠ (.slice Ao29 y210.length co29 : Value).ownBlock ∧ some k_ ≠ (.slice Ao30 y222.length co30 : Value).ownBlock ∧ some k_ ≠ (v226 : Value).ownBlock ∧ some k_ ≠ (.slice Ao34 y228.length co34 : Value).ownBlock) ho0 (fun k_ hk_ => ⟨hk_.2, Or.elim hk_.1 (fun hs_ => Or.elim hs_ (fun hs_ => ((Kd.R_apart' (Kd.R_apart' (Kd.R_apart' (Kd.R_apart' (HO233.out) (Kd.N_typed HO224.out) (by decide)) (Kd.N_typed HO227.out) (by decide)) (Kd.R_typed HO230.out) (by decide)) (Kd.N_typed HO239.out) (by decide)).1 k_ hs_.symm).1.1.1.1.1.2) (fun hs_ => hs_.1)) (fun hn_ => (Kd.fresh' (Kd.R_lt (by (with_reducible repeat (first | apply rA | apply rN | apply rD)); exact HO212.out)) k_ hn_)), Or.elim hk_.1 (fun hs_ => Or.elim hs_ (fun hs_ => ((Kd.R_apart' (Kd.R_apart' (Kd.R_apart' (Kd.R_apart' (HO233.out) (Kd.N_typed HO224.out) (by decide)) (Kd.N_typed HO227.out) (by decide)) (Kd.R_typed HO230.out) (by decide)) (Kd.N_typed HO239.out) (by decide)).1 k_ hs_.symm).1.1.1.2) (fun hs_ => hs_.2.1)) (fun hn_ => (Kd.fresh' (Kd.N_lt (by (with_reducible repeat (first | apply nA | apply nN | apply nD)); exact HO224.out)) k_ hn_)), Or.elim hk_.1 (fun hs_ => Or.elim hs_ (fun hs_ => ((Kd.R_apart' (Kd.R_apart' (Kd.R_apart' (Kd.R_apart' (HO233.out) (Kd.N_typed HO224.out) (by decide)) (Kd.N_typed HO227.out) (by decide)) (Kd.R_typed HO230.out) (by decide)) (Kd.N_typed HO239.out) (by decide)).1 k_ hs_.symm).1.1.2) (fun hs_ => hs_.2.2.1)) (fun hn_ => (Kd.fresh' (Kd.N_lt (by (with_reducible repeat (first | apply nA | apply nN | apply nD)); exact HO227.out)) k_ hn_)), Or.elim hk_.1 (fun hs_ => Or.elim hs_ (fun hs_ => ((Kd.R_apart' (Kd.R_apart' (Kd.R_apart' (Kd.R_apart' (HO233.out) (Kd.N_typed HO224.out) (by decide)) (Kd.N_typed HO227.out) (by decide)) (Kd.R_typed HO230.out) (by decide)) (Kd.N_typed HO239.out) (by decide)).1 k_ hs_.symm).1.2) (fun hs_ => hs_.2.2.2.1)) (fun hn_ => (Kd.fresh' (Kd.R_lt (by (with_reducible repeat (first | apply rA | apply rN | apply rD)); exact HO230.out)) k_ hn_))⟩)) (below_size (by repeat (with_reducible first | exact HB.out | apply bA | apply bN | apply bD)))); have n7_ := am (Kd.N_lower (Kd.N_mono (ok' := fun k_ => some k_ ≠ (.slice Ao29 y210.length co29 : Value).ownBlock ∧ some k_ ≠ (.slice Ao30 y222.length co30 : Value).ownBlock ∧ some k_ ≠ (v226 : Value).ownBlock ∧ some k_ ≠ (.slice Ao34 y228.length co34 : Value).ownBlock) ho1 (fun k_ hk_ => ⟨Or.elim hk_ (fun hs_ => Or.elim hs_ (fun hs_ => ((Kd.R_apart' (Kd.R_apart' (Kd.R_apart' (Kd.R_apart' (HO233.out) (Kd.N_typed HO224.out) (by decide)) (Kd.N_typed HO227.out) (by decide)) (Kd.R_typed HO230.out) (by decide)) (Kd.N_typed HO239.out) (by decide)).1 k_ hs_.symm).1.1.1.1.1.2) (fun hs_ => hs_.1)) (fun hn_ => (Kd.fresh' (Kd.R_lt (by (with_reducible repeat (first | apply rA | apply rN | apply rD)); exact HO212.out)) k_ hn_)), Or.elim hk_ (fun hs_ => Or.elim hs_ (fun hs_ => ((Kd.R_apart' (Kd.R_apart' (Kd.R_apart' (Kd.R_apart' (HO233.out) (Kd.N_typed HO224.out) (by decide)) (Kd.N_typed HO227.out) (by decide)) (Kd.R_typed HO230.out) (by decide)) (Kd.N_typed HO239.out) (by decide)).1 k_ hs_.symm).1.1.1.2) (fun hs_ => hs_.2.1)) (fun hn_ => (Kd.fresh' (Kd.N_lt (by (with_reducible repeat (first | apply nA | apply nN | apply nD)); exact HO224.out)) k_ hn_)), Or.elim hk_ (fun hs_ => Or.elim hs_ (fun hs_ => ((Kd.R_apart' (Kd.R_apart' (Kd.R_apart' (Kd.R_apart' (HO233.out) (Kd.N_typed HO224.out) (by decide)) (Kd.N_typed HO227.out) (by decide)) (Kd.R_typed HO230.out) (by decide)) (Kd.N_typed HO239.out) (by decide)).1 k_ hs_.symm).1.1.2) (fun hs_ => hs_.2.2.1)) (fun hn_ => (Kd.fresh' (Kd.N_lt (by (with_reducible repeat (first | apply nA | apply nN | apply nD)); exact HO227.out)) k_ hn_)), Or.elim hk_ (fun hs_ => Or.elim hs_ (fun hs_ => ((Kd.R_apart' (Kd.R_apart' (Kd.R_apart' (Kd.R_apart' (HO233.out) (Kd.N_typed HO224.out) (by decide)) (Kd.N_typed HO227.out) (by decide)) (Kd.R_typed HO230.out) (by decide)) (Kd.N_typed HO239.out) (by decide)).1 k_ hs_.symm).1.2) (fun hs_ => hs_.2.2.2.1)) (fun hn_ => (Kd.fresh' (Kd.R_lt (by (with_reducible repeat (first | apply rA | apply rN | apply rD)); exact HO230.out)) k_ hn_))⟩)) (below_size (by repeat (with_reducible first | exact HB.out | apply bA | apply bN | apply bD)))); have n8_ := am (below_step (by repeat (with_reducible first | exact HB.out | apply bA | apply bN | apply bD)) hb); clear HO212; clear HO224; clear HO227; clear HO230; clear HO233; clear HO239; clear HB; have HO212 := n0_; have HO224 := n1_; have HO227 := n2_; have HO230 := n3_; have HO233 := n4_; have HO239 := n5_; have HO242 := n6_; have HO245 := n7_; have HB := n8_; clear n0_ n1_ n2_ n3_ n4_ n5_ n6_ n7_ n8_; (try clear hb); (try clear hb2); (try clear hk); (try clear hi); (try clear ho0); (try clear ho1); obtain ⟨Ao45, co45, eo45⟩ := Kd.N_slice HO227.out; subst eo45; have p247 : 0 ≤ (0 : Int) := (by omega); have q247 : 0 < (t225.length : Int) := of_decide_eq_true (by first | (with_reducible assumption) | assumption); obtain ⟨ad247, A247_0, c247_0, e247, hx247_0, hl247_0, hi247_0⟩ := at_L1 (Kd.N_reads' HO227.out).2.2 0 p247 q247; cases e247; obtain ⟨ce247, hce247, hMe247, hcc247⟩ := Kd.N_get HO227.out [] 0 p247 (by first | exact q247 | exact of_decide_eq_true (by first | (with_reducible assumption) | assumption) | (have e_ := (Kd.N_reads' HO227.out).1; omega)); obtain ⟨ua247_0, uc247_0, rfl, ul247_0, ge247_0⟩ := Kd.FK_slice_open hMe247; have hv247_0 := hcc247 0 _ rfl; rw [Nat.add_zero, show ((Kd.slice 9 Kd.string)).sz = 1 from rfl, Nat.mul_one] at hv247_0; replace hv247_0 := Option.some.inj (hv247_0.symm.trans hx247_0); injection hv247_0 with hva_ hvn_ hvc_; rw [hva_] at ge247_0; rw [hvc_] at ul247_0; have HL247_0 := am (show Kd.V Kd.string 9 _ w.heap.size _ _ (rd_L1 t225 0) from Kd.V_mk ul247_0 ge247_0); clear hva_ hvn_ hvc_ ge247_0 ul247_0; clear hcc247 hce247; have qi247 : (0 < t225.length) = True := eq_true (by omega); (try rw [show ((0 : Int)).toNat = 0 from rfl] at hx247_0); (try rw [Addr.add_zero'] at hx247_0); have HR247_0 := am hi247_0; have HC247_0 := am hl247_0; clear hi247_0 hl247_0; replace p247 := eq_true p247; replace q247 := eq_true q247; have p248 : 0 ≤ (0 : Int) := (by omega); have q248 : 0 < ((rd_L1 t225 0).length : Int) := of_decide_eq_true (by first | (with_reducible assumption) | assumption); obtain ⟨ad248, e248, hx248_0⟩ := Kd.at_string (by repeat (first | (with_reducible exact HR247_0.out) | (with_reducible refine Kd.C_alloc ?_ _) | (with_reducible refine Kd.C_drewN ?_ _) | (with_reducible refine Kd.C_drew ?_) | exact HR247_0.out)) 0 p248 q248; cases e248; have qi248 : (0 < (rd_L1 t225 0).length) = True := eq_true (by omega); (try rw [show ((0 : Int)).toNat = 0 from rfl] at hx248_0); (try rw [Addr.add_zero'] at hx248_0); replace p248 := eq_true p248; replace q248 := eq_true q248; obtain ⟨Ao46, co46, eo46⟩ := Kd.V_slice HO242.out; subst eo46; have p249 : 0 ≤ (0 : Int) := (by omega); have q249 : 0 < (t240.length : Int) := of_decide_eq_true (by first | (with_reducible assumption) | assumption); obtain ⟨ad249, e249, hx249_0⟩ := Kd.at_string (Kd.V_reads' HO242.out).2.2 0 p249 q249; cases e249; have qi249 : (0 < t240.length) = True := eq_true (by omega); (try rw [show ((0 : Int)).toNat = 0 from rfl] at hx249_0); (try rw [Addr.add_zero'] at hx249_0); replace p249 := eq_true p249; replace q249 := eq_true q249; obtain ⟨Ao47, co47, eo47⟩ := Kd.N_slice HO245.out; subst eo47; have p250 : 0 ≤ (0 : Int) := (by omega); have q250 : 0 < (t243.length : Int) := of_decide_eq_true (by first | (with_reducible assumption) | assumption); obtain ⟨ad250, A250_0, c250_0, e250, hx250_0, hl250_0, hi250_0⟩ := at_L1 (Kd.N_reads' HO245.out).2.2 0 p250 q250; cases e250; obtain ⟨ce250, hce250, hMe250, hcc250⟩ := Kd.N_get HO245.out [] 0 p250 (by first | exact q250 | exact of_decide_eq_true (by first | (with_reducible assumption) | assumption) | (have e_ := (Kd.N_reads' HO245.out).1; omega)); obtain ⟨ua250_0, uc250_0, rfl, ul250_0, ge250_0⟩ := Kd.FK_slice_open hMe250; have hv250_0 := hcc250 0 _ rfl; rw [Nat.add_zero, show ((Kd.slice 9 Kd.string)).sz = 1 from rfl, Nat.mul_one] at hv250_0; replace hv250_0 := Option.some.inj (hv250_0.symm.trans hx250_0); injection hv250_0 with hva_ hvn_ hvc_; rw [hva_] at ge250_0; rw [hvc_] at ul250_0; have HL250_0 := am (show Kd.V Kd.string 9 _ w.heap.size _ _ (rd_L1 t243 0) from Kd.V_mk ul250_0 ge250_0); clear hva_ hvn_ hvc_ ge250_0 ul250_0; clear hcc250 hce250; have qi250 : (0 < t243.length) = True := eq_true (by omega); (try rw [show ((0 : Int)).toNat = 0 from rfl] at hx250_0); (try rw [Addr.add_zero'] at hx250_0); have HR250_0 := am hi250_0; have HC250_0 := am hl250_0; clear hi250_0 hl250_0; replace p250 := eq_true p250; replace q250 := eq_true q250; have p251 : 0 ≤ (0 : Int) := (by omega); have q251 : 0 < ((rd_L1 t243 0).length : Int) := of_decide_eq_true (by first | (with_reducible assumption) | assumption); obtain ⟨ad251, e251, hx251_0⟩ := Kd.at_string (by repeat (first | (with_reducible exact HR250_0.out) | (with_reducible refine Kd.C_alloc ?_ _) | (with_reducible refine Kd.C_drewN ?_ _) | (with_reducible refine Kd.C_drew ?_) | exact HR250_0.out)) 0 p251 q251; cases e251; have qi251 : (0 < (rd_L1 t243 0).length) = True := eq_true (by omega); (try rw [show ((0 : Int)).toNat = 0 from rfl] at hx251_0); (try rw [Addr.add_zero'] at hx251_0); replace p251 := eq_true p251; replace q251 := eq_true q251) | ((with_reducible refine gate_dst (N := 63) rfl ?_); (try (refine gate_guard (by rfl) ?_; dsimp only)); refine Kd.R_lit Kd.string _ 9 ?hg (N := 63) ?hd (xs := ([(⟨#[97]⟩ : ByteArray)] : List ByteArray)) (inner := [.string (⟨#[97]⟩ : ByteArray)]) (ok := fun _ => True) (okp := fun _ => True) ?hr ?hp (fun _ hk => hk) trivial (Below.refl _ _) (Nat.le_refl _) (by simp) ?_; (case hd => rfl); (case hg => rfl); (case hr => first | (go_simp; done) | (go_simp; rfl)); (case hp => exact (Reps.one (show Kd.M Kd.string _ _ _ (⟨#[97]⟩ : ByteArray) [.string (⟨#[97]⟩ : ByteArray)] from rfl) (Reps.none _ _))); intro v253 w48 ho49 hb hg_ hnew_; clear hg_ hnew_; rw [← Ny252.out] at ho49; have n0_ := am (Kd.R_elder' (by (with_reducible repeat (first | apply rA | apply rN | apply rD)); exact HO212.out) (Kd.R_base ho49) hb); have n1_ := am (Kd.N_elder' (by (with_reducible repeat (first | apply nA | apply nN | apply nD)); exact HO224.out) (Kd.R_base ho49) hb); have n2_ := am (Kd.N_elder' (by (with_reducible repeat (first | apply nA | apply nN | apply nD)); exact HO227.out) (Kd.R_base ho49) hb); have n3_ := am (Kd.R_below (by (with_reducible repeat (first | apply rA | apply rN | apply rD)); exact HO230.out) hb); have n4_ := am (Kd.R_elder' (by (with_reducible repeat (first | apply rA | apply rN | apply rD)); exact HO233.out) (Kd.R_base ho49) hb); have n5_ := am (Kd.N_elder' (by (with_reducible repeat (first | apply nA | apply nN | apply nD)); exact HO239.out) (Kd.R_base ho49) hb); have n6_ := am (Kd.V_elder' (by (with_reducible repeat (first | apply vA | apply vN | apply vD)); exact HO242.out) (Kd.R_base ho49) hb); have n7_ := am (Kd.N_elder' (by (with_reducible repeat (first | apply nA | apply nN | apply nD)); exact HO245.out) (Kd.R_base ho49) hb); have n8_ := am (Kd.V_elder' (by (with_reducible repeat (first | apply vA | apply vN | apply vD)); exact HL247_0.out) (Kd.R_base ho49) hb); have n9_ := am (Kd.V_elder' (by (with_reducible repeat (first | apply vA | apply vN | apply vD)); exact HL250_0.out) (Kd.R_base ho49) hb); have n10_ := am (Kd.R_lower (Kd.R_new' (Kd.R_new' ho49 (Kd.R_lt (by (with_reducible repeat (first | apply rA | apply rN | apply rD)); exact HO212.out))) (Kd.R_lt (by (with_reducible repeat (first | apply rA | apply rN | apply rD)); exact HO233.out))) (below_size (by repeat (with_reducible first | exact HB.out | apply bA | apply bN | apply bD)))); have n11_ := am (Kd.C_below (by repeat (first | (with_reducible exact HR247_0.out) | (with_reducible refine Kd.C_alloc ?_ _) | (with_reducible refine Kd.C_drewN ?_ _) | (with_reducible refine Kd.C_drew ?_) | exact HR247_0.out)) hb); have n12_ := am (Kd.C_below (by repeat (first | (with_reducible exact HR250_0.out) | (with_reducible refine Kd.C_alloc ?_ _) | (with_reducible refine Kd.C_drewN ?_ _) | (with_reducible refine Kd.C_drew ?_) | exact HR250_0.out)) hb); have n13_ := am (below_step (by repeat (with_reducible first | exact HB.out | apply bA | apply bN | apply bD)) hb); clear HO212; clear HO224; clear HO227; clear HO230; clear HO233; clear HO239; clear HO242; clear HO245; clear HL247_0; clear HL250_0; clear HR247_0; clear HR250_0; clear HB; have HO212 := n0_; have HO224 := n1_; have HO227 := n2_; have HO230 := n3_; have HO233 := n4_; have HO239 := n5_; have HO242 := n6_; have HO245 := n7_; have HL247_0 := n8_; have HL250_0 := n9_; have HO254 := n10_; have HR247_0 := n11_; have HR250_0 := n12_; have HB := n13_; clear n0_ n1_ n2_ n3_ n4_ n5_ n6_ n7_ n8_ n9_ n10_ n11_ n12_ n13_; clear hb ho49) | ((with_reducible refine gate_dst (N := 64) rfl ?_); (try (refine gate_guard (by rfl) ?_; dsimp only)); refine Kd.R_lit Kd.string _ 9 ?hg (N := 64) ?hd (xs := ([(⟨#[98]⟩ : ByteArray)] : List ByteArray)) (inner := [.string (⟨#[98]⟩ : ByteArray)]) (ok := fun _ => True) (okp := fun _ => True) ?hr ?hp (fun _ hk => hk) trivial (Below.refl _ _) (Nat.le_refl _) (by simp) ?_; (case hd => rfl); (case hg => rfl); (case hr => first | (go_simp; done) | (go_simp; rfl)); (case hp => exact (Reps.one (show Kd.M Kd.string _ _ _ (⟨#[98]⟩ : ByteArray) [.string (⟨#[98]⟩ : ByteArray)] from rfl) (Reps.none _ _))); intro v256 w50 ho51 hb hg_ hnew_; clear hg_ hnew_; rw [← Ny255.out] at ho51; have n0_ := am (Kd.R_elder' (by (with_reducible repeat (first | apply rA | apply rN | apply rD)); exact HO212.out) (Kd.R_base ho51) hb); have n1_ := am (Kd.N_elder' (by (with_reducible repeat (first | apply nA | apply nN | apply nD)); exact HO224.out) (Kd.R_base ho51) hb); have n2_ := am (Kd.N_elder' (by (with_reducible repeat (first | apply nA | apply nN | apply nD)); exact HO227.out) (Kd.R_base ho51) hb); have n3_ := am (Kd.R_below (by (with_reducible repeat (first | apply rA | apply rN | apply rD)); exact HO230.out) hb); have n4_ := am (Kd.R_elder' (by (with_reducible repeat (first | apply rA | apply rN | apply rD)); exact HO233.out) (Kd.R_base ho51) hb); have n5_ := am (Kd.N_elder' (by (with_reducible repeat (first | apply nA | apply nN | apply nD)); exact HO239.out) (Kd.R_base ho51) hb); have n6_ := am (Kd.V_elder' (by (with_reducible repeat (first | apply vA | apply vN | apply vD)); exact HO242.out) (Kd.R_base ho51) hb); have n7_ := am (Kd.N_elder' (by (with_reducible repeat (first | apply nA | apply nN | apply nD)); exact HO245.out) (Kd.R_base ho51) hb); have n8_ := am (Kd.V_elder' (by (with_reducible repeat (first | apply vA | apply vN | apply vD)); exact HL247_0.out) (Kd.R_base ho51) hb); have n9_ := am (Kd.V_elder' (by (with_reducible repeat (first | apply vA | apply vN | apply vD)); exact HL250_0.out) (Kd.R_base ho51) hb); have n10_ := am (Kd.R_elder' (by (with_reducible repeat (first | apply rA | apply rN | apply rD)); exact HO254.out) (Kd.R_base ho51) hb); have n11_ := am (Kd.R_lower (Kd.R_new' (Kd.R_new' (Kd.R_new' ho51 (Kd.R_lt (by (with_reducible repeat (first | apply rA | apply rN | apply rD)); exact HO212.out))) (Kd.R_lt (by (with_reducible repeat (first | apply rA | apply rN | apply rD)); exact HO233.out))) (Kd.R_lt (by (with_reducible repeat (first | apply rA | apply rN | apply rD)); exact HO254.out))) (below_size (by repeat (with_reducible first | exact HB.out | apply bA | apply bN | apply bD)))); have n12_ := am (Kd.C_below (by repeat (first | (with_reducible exact HR247_0.out) | (with_reducible refine Kd.C_alloc ?_ _) | (with_reducible refine Kd.C_drewN ?_ _) | (with_reducible refine Kd.C_drew ?_) | exact HR247_0.out)) hb); have n13_ := am (Kd.C_below (by repeat (first | (with_reducible exact HR250_0.out) | (with_reducible refine Kd.C_alloc ?_ _) | (with_reducible refine Kd.C_drewN ?_ _) | (with_reducible refine Kd.C_drew ?_) | exact HR250_0.out)) hb); have n14_ := am (below_step (by repeat (with_reducible first | exact HB.out | apply bA | apply bN | apply bD)) hb); clear HO212; clear HO224; clear HO227; clear HO230; clear HO233; clear HO239; clear HO242; clear HO245; clear HL247_0; clear HL250_0; clear HO254; clear HR247_0; clear HR250_0; clear HB; have HO212 := n0_; have HO224 := n1_; have HO227 := n2_; have HO230 := n3_; have HO233 := n4_; have HO239 := n5_; have HO242 := n6_; have HO245 := n7_; have HL247_0 := n8_; have HL250_0 := n9_; have HO254 := n10_; have HO257 := n11_; have HR247_0 := n12_; have HR250_0 := n13_; have HB := n14_; clear n0_ n1_ n2_ n3_ n4_ n5_ n6_ n7_ n8_ n9_ n10_ n11_ n12_ n13_ n14_; clear hb ho51; obtain ⟨Ao52, co52, eo52⟩ := Kd.R_slice HO254.out; subst eo52; obtain ⟨Ao53, co53, eo53⟩ := Kd.R_slice HO257.out; subst eo53) | ((with_reducible refine gate_dst (N := 65) rfl ?_); (try (refine gate_guard (by rfl) ?_; dsimp only)); refine Kd.N_lit (Kd.slice 9 Kd.string) _ 22 ?hg (N' := 65) ?hd (xs := ([y252, y255] : List (List ByteArray))) (inner := [.slice Ao52 y252.length co52, .slice Ao53 y255.length co53]) (ok := (fun k_ => some k_ ≠ (.slice Ao29 y210.length co29 : Value).ownBlock ∧ some k_ ≠ (.slice Ao30 y222.length co30 : Value).ownBlock ∧ some k_ ≠ (.slice (some ad247) t225.length co45 : Value).ownBlock ∧ some k_ ≠ (.slice Ao34 y228.length co34 : Value).ownBlock ∧ some k_ ≠ (.slice Ao42 y231.length co42 : Value).ownBlock ∧ some k_ ≠ (.slice Ao43 y237.length co43 : Value).ownBlock ∧ some k_ ≠ (.slice (some ad250) t243.length co47 : Value).ownBlock)) (okp := (fun k_ => some k_ ≠ (.slice Ao29 y210.length co29 : Value).ownBlock ∧ some k_ ≠ (.slice Ao30 y222.length co30 : Value).ownBlock ∧ some k_ ≠ (.slice (some ad247) t225.length co45 : Value).ownBlock ∧ some k_ ≠ (.slice Ao34 y228.length co34 : Value).ownBlock ∧ some k_ ≠ (.slice Ao42 y231.length co42 : Value).ownBlock ∧ some k_ ≠ (.slice Ao43 y237.length co43 : Value).ownBlock ∧ some k_ ≠ (.slice (some ad250) t243.length co47 : Value).ownBlock)) ?hr ?hp (fun _ hk => hk) ((show ∀ k_, w50.heap.size ≤ k_ → (fun k_ => some k_ ≠ (.slice Ao29 y210.length co29 : Value).ownBlock ∧ some k_ ≠ (.slice Ao30 y222.length co30 : Value).ownBlock ∧ some k_ ≠ (.slice (some ad247) t225.length co45 : Value).ownBlock ∧ some k_ ≠ (.slice Ao34 y228.length co34 : Value).ownBlock ∧ some k_ ≠ (.slice Ao42 y231.length co42 : Value).ownBlock ∧ some k_ ≠ (.slice Ao43 y237.length co43 : Value).ownBlock ∧ some k_ ≠ (.slice (some ad250) t243.length co47 : Value).ownBlock) k_ from fun k_ hk => ⟨Kd.fresh' (Kd.R_lt (by (with_reducible repeat (first | apply rA | apply rN | apply rD)); exact HO212.out)) k_ hk, Kd.fresh' (Kd.N_lt (by (with_reducible repeat (first | apply nA | apply nN | apply nD)); exact HO224.out)) k_ hk, Kd.fresh' (Kd.N_lt (by (with_reducible repeat (first | apply nA | apply nN | apply nD)); exact HO227.out)) k_ hk, Kd.fresh' (Kd.R_lt (by (with_reducible repeat (first | apply rA | apply rN | apply rD)); exact HO230.out)) k_ hk, Kd.fresh' (Kd.R_lt (by (with_reducible repeat (first | apply rA | apply rN | apply rD)); exact HO233.out)) k_ hk, Kd.fresh' (Kd.N_lt (by (with_reducible repeat (first | apply nA | apply nN | apply nD)); exact HO239.out)) k_ hk, Kd.fresh' (Kd.N_lt (by (with_reducible repeat (first | apply nA | apply nN | apply nD)); exact HO245.out)) k_ hk⟩) _ (Nat.le_refl _)) (Below.refl _ _) (Nat.le_refl _) (by simp) ?_; (case hd => rfl); (case hg => rfl); (case hr => first | (go_simp; done) | (go_simp; rfl)); (case hp => exact (Reps.one (show Kd.FK (Kd.slice 9 Kd.string) _ _ y252 [.slice Ao52 y252.length co52] from (Kd.FK_slice_mk (Kd.R_reads' (Kd.R_mono (ok' := (fun k_ => some k_ ≠ (.slice Ao29 y210.length co29 : Value).ownBlock ∧ some k_ ≠ (.slice Ao30 y222.length co30 : Value).ownBlock ∧ some k_ ≠ (.slice (some ad247) t225.length co45 : Value).ownBlock ∧ some k_ ≠ (.slice Ao34 y228.length co34 : Value).ownBlock ∧ some k_ ≠ (.slice Ao42 y231.length co42 : Value).ownBlock ∧ some k_ ≠ (.slice Ao43 y237.length co43 : Value).ownBlock ∧ some k_ ≠ (.slice (some ad250) t243.length co47 : Value).ownBlock)) (Kd.R_apart' (Kd.R_apart' (Kd.R_apart' (Kd.R_apart' (Kd.R_apart' (HO254.out) (Kd.N_typed HO224.out) (by decide)) (Kd.N_typed HO227.out) (by decide)) (Kd.R_typed HO230.out) (by decide)) (Kd.N_typed HO239.out) (by decide)) (Kd.N_typed HO245.out) (by decide)) (fun k_ hk => ⟨hk.1.1.1.1.1.1.1.2, ⟨hk.1.1.1.1.2, ⟨hk.1.1.1.2, ⟨hk.1.1.2, ⟨hk.1.1.1.1.1.1.2, ⟨hk.1.2, hk.2⟩⟩⟩⟩⟩⟩))).2.1 (Kd.R_F (Kd.R_mono (ok' := (fun k_ => some k_ ≠ (.slice Ao29 y210.length co29 : Value).ownBlock ∧ some k_ ≠ (.slice Ao30 y222.length co30 : Value).ownBlock ∧ some k_ ≠ (.slice (some ad247) t225.length co45 : Value).ownBlock ∧ some k_ ≠ (.slice Ao34 y228.length co34 : Value).ownBlock ∧ some k_ ≠ (.slice Ao42 y231.length co42 : Value).ownBlock ∧ some k_ ≠ (.slice Ao43 y237.length co43 : Value).ownBlock ∧ some k_ ≠ (.slice (some ad250) t243.length co47 : Value).ownBlock)) (Kd.R_apart' (Kd.R_apart' (Kd.R_apart' (Kd.R_apart' (Kd.R_apart' (HO254.out) (Kd.N_typed HO224.out) (by decide)) (Kd.N_typed HO227.out) (by decide)) (Kd.R_typed HO230.out) (by decide)) (Kd.N_typed HO239.out) (by decide)) (Kd.N_typed HO245.out) (by decide)) (fun k_ hk => ⟨hk.1.1.1.1.1.1.1.2, ⟨hk.1.1.1.1.2, ⟨hk.1.1.1.2, ⟨hk.1.1.2, ⟨hk.1.1.1.1.1.1.2, ⟨hk.1.2, hk.2⟩⟩⟩⟩⟩⟩))))) (Reps.one (show Kd.FK (Kd.slice 9 Kd.string) _ _ y255 [.slice Ao53 y255.length co53] from (Kd.FK_slice_mk (Kd.R_reads' (Kd.R_mono (ok' := (fun k_ => some k_ ≠ (.slice Ao29 y210.length co29 : Value).ownBlock ∧ some k_ ≠ (.slice Ao30 y222.length co30 : Value).ownBlock ∧ some k_ ≠ (.slice (some ad247) t225.length co45 : Value).ownBlock ∧ some k_ ≠ (.slice Ao34 y228.length co34 : Value).ownBlock ∧ some k_ ≠ (.slice Ao42 y231.length co42 : Value).ownBlock ∧ some k_ ≠ (.slice Ao43 y237.length co43 : Value).ownBlock ∧ some k_ ≠ (.slice (some ad250) t243.length co47 : Value).ownBlock)) (Kd.R_apart' (Kd.R_apart' (Kd.R_apart' (Kd.R_apart' (Kd.R_apart' (HO257.out) (Kd.N_typed HO224.out) (by decide)) (Kd.N_typed HO227.out) (by decide)) (Kd.R_typed HO230.out) (by decide)) (Kd.N_typed HO239.out) (by decide)) (Kd.N_typed HO245.out) (by decide)) (fun k_ hk => ⟨hk.1.1.1.1.1.1.1.2, ⟨hk.1.1.1.1.2, ⟨hk.1.1.1.2, ⟨hk.1.1.2, ⟨hk.1.1.1.1.1.1.2, ⟨hk.1.2, hk.2⟩⟩⟩⟩⟩⟩))).2.1 (Kd.R_F (Kd.R_mono (ok' := (fun k_ => some k_ ≠ (.slice Ao29 y210.length co29 : Value).ownBlock ∧ some k_ ≠ (.slice Ao30 y222.length co30 : Value).ownBlock ∧ some k_ ≠ (.slice (some ad247) t225.length co45 : Value).ownBlock ∧ some k_ ≠ (.slice Ao34 y228.length co34 : Value).ownBlock ∧ some k_ ≠ (.slice Ao42 y231.length co42 : Value).ownBlock ∧ some k_ ≠ (.slice Ao43 y237.length co43 : Value).ownBlock ∧ some k_ ≠ (.slice (some ad250) t243.length co47 : Value).ownBlock)) (Kd.R_apart' (Kd.R_apart' (Kd.R_apart' (Kd.R_apart' (Kd.R_apart' (HO257.out) (Kd.N_typed HO224.out) (by decide)) (Kd.N_typed HO227.out) (by decide)) (Kd.R_typed HO230.out) (by decide)) (Kd.N_typed HO239.out) (by decide)) (Kd.N_typed HO245.out) (by decide)) (fun k_ hk => ⟨hk.1.1.1.1.1.1.1.2, ⟨hk.1.1.1.1.2, ⟨hk.1.1.1.2, ⟨hk.1.1.2, ⟨hk.1.1.1.1.1.1.2, ⟨hk.1.2, hk.2⟩⟩⟩⟩⟩⟩))))) (Reps.none _ _)))); intro v259 w54 ho55 hb hg_ hnew_; clear hg_ hnew_; rw [← Ny258.out] at ho55; have n0_ := am (Kd.R_below (by (with_reducible repeat (first | apply rA | apply rN | apply rD)); exact HO212.out) hb); have n1_ := am (Kd.N_elder' (by (with_reducible repeat (first | apply nA | apply nN | apply nD)); exact HO224.out) (Kd.N_base ho55) hb); have n2_ := am (Kd.N_elder' (by (with_reducible repeat (first | apply nA | apply nN | apply nD)); exact HO227.out) (Kd.N_base ho55) hb); have n3_ := am (Kd.R_below (by (with_reducible repeat (first | apply rA | apply rN | apply rD)); exact HO230.out) hb); have n4_ := am (Kd.R_below (by (with_reducible repeat (first | apply rA | apply rN | apply rD)); exact HO233.out) hb); have n5_ := am (Kd.N_elder' (by (with_reducible repeat (first | apply nA | apply nN | apply nD)); exact HO239.out) (Kd.N_base ho55) hb); have n6_ := am (Kd.V_elder' (by (with_reducible repeat (first | apply vA | apply vN | apply vD)); exact HO242.out) (Kd.N_base ho55) hb); have n7_ := am (Kd.N_elder' (by (with_reducible repeat (first | apply nA | apply nN | apply nD)); exact HO245.out) (Kd.N_base ho55) hb); have n8_ := am (Kd.V_elder' (by (with_reducible repeat (first | apply vA | apply vN | apply vD)); exact HL247_0.out) (Kd.N_base ho55) hb); have n9_ := am (Kd.V_elder' (by (with_reducible repeat (first | apply vA | apply vN | apply vD)); exact HL250_0.out) (Kd.N_base ho55) hb); have n10_ := am (Kd.N_lower ho55 (below_size (by repeat (with_reducible first | exact HB.out | apply bA | apply bN | apply bD)))); have n11_ := am (Kd.C_below (by repeat (first | (with_reducible exact HR247_0.out) | (with_reducible refine Kd.C_alloc ?_ _) | (with_reducible refine Kd.C_drewN ?_ _) | (with_reducible refine Kd.C_drew ?_) | exact HR247_0.out)) hb); have n12_ := am (Kd.C_below (by repeat (first | (with_reducible exact HR250_0.out) | (with_reducible refine Kd.C_alloc ?_ _) | (with_reducible refine Kd.C_drewN ?_ _) | (with_reducible refine Kd.C_drew ?_) | exact HR250_0.out)) hb); have n13_ := am (below_step (by repeat (with_reducible first | exact HB.out | apply bA | apply bN | apply bD)) hb); clear HO212; clear HO224; clear HO227; clear HO230; clear HO233; clear HO239; clear HO242; clear HO245; clear HL247_0; clear HL250_0; clear HR247_0; clear HR250_0; clear HB; clear HO254; clear HO257; have HO212 := n0_; have HO224 := n1_; have HO227 := n2_; have HO230 := n3_; have HO233 := n4_; have HO239 := n5_; have HO242 := n6_; have HO245 := n7_; have HL247_0 := n8_; have HL250_0 := n9_; have HO260 := n10_; have HR247_0 := n11_; have HR250_0 := n12_; have HB := n13_; clear n0_ n1_ n2_ n3_ n4_ n5_ n6_ n7_ n8_ n9_ n10_ n11_ n12_ n13_; clear hb ho55; obtain ⟨Ao56, co56, eo56⟩ := Kd.N_slice HO260.out; subst eo56) | (go_at_call 30; (refine (content_Kind.calls k _ _ ([] : List ByteArray) _ _ y258 t261 _ ?side1 ?side2 ?side3 ?side4 A15.out).mono ?_); (case side1 => exact Kd.C_nil _ _); (case side2 => exact Nat.le_refl _); (case side3 => repeat (first | exact (Kd.N_reads' HO260.out).2.2 | (with_reducible refine Kd.C_alloc ?_ _) | (with_reducible refine Kd.C_drewN ?_ _) | (with_reducible refine Kd.C_drew ?_))); (case side4 => exact (Kd.N_reads' HO260.out).2.1); rintro e w57 ⟨rfl, hb⟩; have n0_ := am (Kd.R_below (by (with_reducible repeat (first | apply rA | apply rN | apply rD)); exact HO212.out) hb); have n1_ := am (Kd.N_below (by (with_reducible repeat (first | apply nA | apply nN | apply nD)); exact HO224.out) hb); have n2_ := am (Kd.N_below (by (with_reducible repeat (first | apply nA | apply nN | apply nD)); exact HO227.out) hb); have n3_ := am (Kd.R_below (by (with_reducible repeat (first | apply rA | apply rN | apply rD)); exact HO230.out) hb); have n4_ := am (Kd.R_below (by (with_reducible repeat (first | apply rA | apply rN | apply rD)); exact HO233.out) hb); have n5_ := am (Kd.N_below (by (with_reducible repeat (first | apply nA | apply nN | apply nD)); exact HO239.out) hb); have n6_ := am (Kd.V_below (by (with_reducible repeat (first | apply vA | apply vN | apply vD)); exact HO242.out) hb); have n7_ := am (Kd.N_below (by (with_reducible repeat (first | apply nA | apply nN | apply nD)); exact HO245.out) hb); have n8_ := am (Kd.V_below (by (with_reducible repeat (first | apply vA | apply vN | apply vD)); exact HL247_0.out) hb); have n9_ := am (Kd.V_below (by (with_reducible repeat (first | apply vA | apply vN | apply vD)); exact HL250_0.out) hb); have n10_ := am (Kd.N_below (by (with_reducible repeat (first | apply nA | apply nN | apply nD)); exact HO260.out) hb); have n11_ := am (Kd.C_below (by repeat (first | (with_reducible exact HR247_0.out) | (with_reducible refine Kd.C_alloc ?_ _) | (with_reducible refine Kd.C_drewN ?_ _) | (with_reducible refine Kd.C_drew ?_) | exact HR247_0.out)) hb); have n12_ := am (Kd.C_below (by repeat (first | (with_reducible exact HR250_0.out) | (with_reducible refine Kd.C_alloc ?_ _) | (with_reducible refine Kd.C_drewN ?_ _) | (with_reducible refine Kd.C_drew ?_) | exact HR250_0.out)) hb); have n13_ := am (below_step (by repeat (with_reducible first | exact HB.out | apply bA | apply bN | apply bD)) hb); clear HO212; clear HO224; clear HO227; clear HO230; clear HO233; clear HO239; clear HO242; clear HO245; clear HL247_0; clear HL250_0; clear HO260; clear HR247_0; clear HR250_0; clear HB; have HO212 := n0_; have HO224 := n1_; have HO227 := n2_; have HO230 := n3_; have HO233 := n4_; have HO239 := n5_; have HO242 := n6_; have HO245 := n7_; have HL247_0 := n8_; have HL250_0 := n9_; have HO260 := n10_; have HR247_0 := n11_; have HR250_0 := n12_; have HB := n13_; clear n0_ n1_ n2_ n3_ n4_ n5_ n6_ n7_ n8_ n9_ n10_ n11_ n12_ n13_; (try clear hb); (try clear hb2); (try clear hk); (try clear hi)))
                          go_ret
                          exact ⟨by first | rfl | (simp [errW_none, errW_some] <;> rfl) | (simp [*, errW_none, errW_some] <;> rfl), by repeat (with_reducible first | exact HB.out | apply bA | apply bN | apply bD)⟩
                        · rw [if_neg c14] at H
                          have c14b0 : ((rdOf ByteArray.empty (rd_L1 t243 0) 0).toList == ([99] : List UInt8)) = false := beq_eq_false_iff_ne.mpr c14
                          have c14b1 : ((rdOf ByteArray.empty (rd_L1 t243 0) 0).toList != ([99] : List UInt8)) = true := bne_iff_ne.mpr c14
                          exact absurd H (by simp)
                      · rw [if_neg c13] at H
                        exact absurd H (by simp)
                    · rw [if_neg c12] at H
                      exact absurd H (by simp)
                  · rw [if_neg c11] at H
                    have c11b0 : ((t243.length : Int) == 1) = false := beq_eq_false_iff_ne.mpr c11
                    have c11b1 : ((t243.length : Int) != 1) = true := bne_iff_ne.mpr c11
                    exact absurd H (by simp)
                · rw [if_neg c10] at H
                  have c10b0 : ((rdOf ByteArray.empty t240 0).toList == ([98] : List UInt8)) = false := beq_eq_false_iff_ne.mpr c10
                  have c10b1 : ((rdOf ByteArray.empty t240 0).toList != ([98] : List UInt8)) = true := bne_iff_ne.mpr c10
                  exact absurd H (by simp)
              · rw [if_neg c9] at H
                exact absurd H (by simp)
            · rw [if_neg c8] at H
              have c8b0 : ((t240.length : Int) == 1) = false := beq_eq_false_iff_ne.mpr c8
              have c8b1 : ((t240.length : Int) != 1) = true := bne_iff_ne.mpr c8
              exact absurd H (by simp)
          · rw [if_neg c7] at H
            have c7b0 : (t246 == 0) = false := beq_eq_false_iff_ne.mpr c7
            have c7b1 : (t246 != 0) = true := bne_iff_ne.mpr c7
            exact absurd H (by simp)
        · rw [if_neg c6] at H
          have c6b0 : ((rdOf ByteArray.empty (rd_L1 t225 0) 0).toList == ([98] : List UInt8)) = false := beq_eq_false_iff_ne.mpr c6
          have c6b1 : ((rdOf ByteArray.empty (rd_L1 t225 0) 0).toList != ([98] : List UInt8)) = true := bne_iff_ne.mpr c6
          exact absurd H (by simp)
      · rw [if_neg c5] at H
        exact absurd H (by simp)
    · rw [if_neg c4] at H
      exact absurd H (by simp)
  · rw [if_neg c3] at H
    have c3b0 : ((t225.length : Int) == 1) = false := beq_eq_false_iff_ne.mpr c3
    have c3b1 : ((t225.length : Int) != 1) = true := bne_iff_ne.mpr c3
    exact absurd H (by simp)

end Go.Proofs.Ytiaoppikdgoieaa.M
