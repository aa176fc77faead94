/- The law's awake: what it answers. -/
import Derived.Test.YtbhfenpccccloaaF35
namespace Go.Proofs.Ytbhfenpccccloaa.M
open Go.RowKit Go.Proofs Go.Proofs.Ytbhfenpccccloaa.Hand Go.Proofs.YtbhfenpccccloaaW.PrintWords Go.Proofs.YtbhfenpccccloaaW.PrintLast Go.Proofs.YtbhfenpccccloaaW.PrintMore
attribute [local go_sem] Oper.semAt_some
set_option linter.unusedVariables false
set_option linter.unusedSimpArgs false

theorem C_int {w : World} {A : Option Addr} {n : Nat} {xs : List Int} (h : Kd.C (Kd.int .i64) w A n xs) (i : Nat) (x : Int) (hx : xs[i]? = some x) :
    ∃ ad, A = some ad ∧ w.cell? (ad.add i) = some (.int .i64 x) := by
  have hi : i < xs.length := (List.getElem?_eq_some_iff.1 hx).1
  obtain ⟨ad, e, hc⟩ := Kd.at_int h (i : Int) (by omega) (by have := h.1; omega)
  rw [Int.toNat_natCast, rd, Int.toNat_natCast, List.getD_eq_getElem?_getD, hx] at hc
  exact ⟨ad, e, hc⟩
theorem C_strs {W : World} {g : Nat} {xs : List ByteArray} (h : W.heap[g]? = some (.cells (xs.map Value.string).toArray 9 (0, 0))) (hl : xs.length ≤ 1000) : Kd.C Kd.string W (some ⟨g, 0, none⟩) xs.length xs := by
  refine ⟨rfl, by omega, fun _ => ⟨_, rfl, fun j p hj => ⟨[.string p], rfl, rfl, fun i u hu => ?_⟩⟩⟩
  have hi : i = 0 := by
    have := (List.getElem?_eq_some_iff.1 hu).1
    simpa using this
  subst hi
  obtain rfl : Value.string p = u := by simpa using hu
  show W.cell? ((⟨g, 0, none⟩ : Addr).add (j * 1 + 0)) = _
  rw [add_plain, Nat.mul_one, Nat.add_zero, blk_cell h j]
  simp [hj]
abbrev bA : ByteArray := ⟨#[97]⟩
abbrev bB : ByteArray := ⟨#[98]⟩
abbrev bC : ByteArray := ⟨#[99]⟩
abbrev litW (W : World) : World := ((W.alloc (.cells #[.string bA, .string bB, .string bA] 9)).alloc (.cells #[.string bC, .string bA] 9)).alloc (.cells #[.slice (some ⟨W.heap.size, 0, none⟩) 3 3, .slice (some ⟨W.heap.size + 1, 0, none⟩) 2 2] 22)
theorem lit_C (W : World) : Kd.C (Kd.slice 9 Kd.string) (litW W) (some ⟨W.heap.size + 2, 0, none⟩) 2 [[bA, bB, bA], [bC, bA]] := by
  have h0 : (W.alloc (.cells #[.string bA, .string bB, .string bA] 9)).heap[W.heap.size]? = some (.cells ([bA, bB, bA].map Value.string).toArray 9 (0, 0)) := Go.heap_alloc_new W _
  have h1 := Go.heap_alloc_new (W.alloc (.cells #[.string bA, .string bB, .string bA] 9)) (.cells ([bC, bA].map Value.string).toArray 9)
  have h2 := Go.heap_alloc_new ((W.alloc (.cells #[.string bA, .string bB, .string bA] 9)).alloc (.cells #[.string bC, .string bA] 9)) (.cells #[.slice (some ⟨W.heap.size, 0, none⟩) 3 3, .slice (some ⟨W.heap.size + 1, 0, none⟩) 2 2] 22)
  rw [World.size_alloc] at h1
  rw [World.size_alloc, World.size_alloc] at h2
  have c0 := Kd.C_below (Kd.C_below (C_strs h0 (by decide)) (below_alloc (Below.refl _ _) (.cells #[.string bC, .string bA] 9))) (below_alloc (Below.refl _ _) (.cells #[.slice (some ⟨W.heap.size, 0, none⟩) 3 3, .slice (some ⟨W.heap.size + 1, 0, none⟩) 2 2] 22))
  have c1 := Kd.C_below (C_strs h1 (by decide)) (below_alloc (Below.refl _ _) (.cells #[.slice (some ⟨W.heap.size, 0, none⟩) 3 3, .slice (some ⟨W.heap.size + 1, 0, none⟩) 2 2] 22))
  refine ⟨rfl, by decide, fun _ => ⟨_, rfl, fun j p hj => ?_⟩⟩
  rcases j with _ | _ | j
  · obtain rfl := Option.some.inj hj
    refine ⟨[.slice (some ⟨W.heap.size, 0, none⟩) 3 3], rfl, ⟨_, _, rfl, by decide, c0⟩, fun i u hu => ?_⟩
    have hi : i = 0 := by
      have := (List.getElem?_eq_some_iff.1 hu).1
      simpa using this
    subst hi
    obtain rfl := Option.some.inj hu
    exact blk_cell h2 0
  · obtain rfl := Option.some.inj hj
    refine ⟨[.slice (some ⟨W.heap.size + 1, 0, none⟩) 2 2], rfl, ⟨_, _, rfl, by decide, c1⟩, fun i u hu => ?_⟩
    have hi : i = 0 := by
      have := (List.getElem?_eq_some_iff.1 hu).1
      simpa using this
    subst hi
    obtain rfl := Option.some.inj hu
    exact blk_cell h2 1
  · simp at hj
theorem okLit : okF [[bA, bB, bA], [bC, bA]] := by
  refine ⟨by decide, fun l hl => ?_⟩
  simp only [List.mem_cons, List.not_mem_nil, or_false] at hl
  rcases hl with rfl | rfl
  · exact ⟨by decide, fun s hs => by simp only [List.mem_cons, List.not_mem_nil, or_false] at hs; rcases hs with rfl | rfl | rfl <;> decide⟩
  · exact ⟨by decide, fun s hs => by simp only [List.mem_cons, List.not_mem_nil, or_false] at hs; rcases hs with rfl | rfl <;> decide⟩
theorem allLit : intern_All.f 0 [[bA, bB, bA], [bC, bA]] = some [[0, 1, 0], [2, 0]] := by
  rw [intern_All.f, if_pos okLit]
  decide
/-- Id of a known table. -/
theorem id_k (xs : List ByteArray) (s : ByteArray) (r : Int) (ys : List ByteArray) (hs : s.size ≤ 1000000) (hlen : xs.length ≤ 1000000) (hr : (ixG xs s : Int) = r) (hy : addG xs s = ys) {W : World} {n₀ B Bm : Nat} {v : Value} (hn₀ : n₀ ≤ W.heap.size) (h : TabW W n₀ B Bm v xs) :
    Calls Try.prog 31 #[.pointer (some ⟨B, 0, none⟩), .string s] W fun e w' => e = .returned (.int .i64 r) ∧ (∃ v', TabW w' n₀ B Bm v' ys) ∧ Below n₀ W w' := by
  refine (id_c W n₀ B Bm v xs s hs hlen hn₀ h).mono ?_
  rintro e w' ⟨rfl, ⟨v', ht, _⟩, _, hb⟩
  exact ⟨by rw [hr], ⟨v', by rw [← hy]; exact ht⟩, hb⟩

theorem id_1 {W : World} {n₀ B Bm : Nat} {v : Value} (hn₀ : n₀ ≤ W.heap.size) (h : TabW W n₀ B Bm v []) :
    Calls Try.prog 31 #[.pointer (some ⟨B, 0, none⟩), .string ⟨#[97]⟩] W fun e w' => e = .returned (.int .i64 0) ∧ (∃ v', TabW w' n₀ B Bm v' [bA]) ∧ Below n₀ W w' :=
  id_k [] bA 0 [bA] (by decide) (by decide) (by decide) (by decide) hn₀ h
theorem id_2 {W : World} {n₀ B Bm : Nat} {v : Value} (hn₀ : n₀ ≤ W.heap.size) (h : TabW W n₀ B Bm v [bA]) :
    Calls Try.prog 31 #[.pointer (some ⟨B, 0, none⟩), .string ⟨#[98]⟩] W fun e w' => e = .returned (.int .i64 1) ∧ (∃ v', TabW w' n₀ B Bm v' [bA, bB]) ∧ Below n₀ W w' :=
  id_k [bA] bB 1 [bA, bB] (by decide) (by decide) (by decide) (by decide) hn₀ h
theorem id_3 {W : World} {n₀ B Bm : Nat} {v : Value} (hn₀ : n₀ ≤ W.heap.size) (h : TabW W n₀ B Bm v [bA, bB]) :
    Calls Try.prog 31 #[.pointer (some ⟨B, 0, none⟩), .string ⟨#[97]⟩] W fun e w' => e = .returned (.int .i64 0) ∧ (∃ v', TabW w' n₀ B Bm v' [bA, bB]) ∧ Below n₀ W w' :=
  id_k [bA, bB] bA 0 [bA, bB] (by decide) (by decide) (by decide) (by decide) hn₀ h
theorem len_2 {W : World} {n₀ B Bm : Nat} {v : Value} (h : TabW W n₀ B Bm v [bA, bB]) :
    Calls Try.prog 32 #[.pointer (some ⟨B, 0, none⟩)] W fun e w' => e = .returned (.int .i64 2) ∧ w' = W := len_c W n₀ B Bm v [bA, bB] h
theorem text_1 {W : World} {n₀ B Bm : Nat} {v : Value} (h : TabW W n₀ B Bm v [bA, bB]) :
    Calls Try.prog 33 #[.pointer (some ⟨B, 0, none⟩), .int .i64 1] W fun e w' => e = .returned (.string ⟨#[98]⟩) ∧ w' = W := text_c W n₀ B Bm v [bA, bB] 1 h
theorem all_k (W : World) : Calls Try.prog 35 #[.slice (some ⟨W.heap.size + 2, 0, none⟩) 2 2] (litW W) fun e w' => ∃ (G g c6 : Nat), e = .returned (.slice (some ⟨G, 0, none⟩) 2 2) ∧ w'.cell? ⟨G, 1, none⟩ = some (.slice (some ⟨g, 0, none⟩) 2 c6) ∧ w'.cell? ⟨g, 0, none⟩ = some (.int .i64 2) ∧ w'.cell? ⟨g, 1, none⟩ = some (.int .i64 0) ∧ Below W.heap.size W w' := by
  refine (all_c _ 2 [[bA, bB, bA], [bC, bA]] (litW W) (lit_C W) (by decide) okLit).mono ?_
  rintro e w5 ⟨G, cs, rfl, hR, hb5⟩
  have BL := below_alloc (below_alloc (below_alloc (Below.refl W.heap.size W) (.cells #[.string bA, .string bB, .string bA] 9)) (.cells #[.string bC, .string bA] 9)) (.cells #[.slice (some ⟨W.heap.size, 0, none⟩) 3 3, .slice (some ⟨W.heap.size + 1, 0, none⟩) 2 2] 22)
  have BL5 := below_step BL hb5
  rw [show (numA [] [[bA, bB, bA], [bC, bA]] []).2 = [[0, 1, 0], [2, 0]] from by decide] at hR
  obtain ⟨h1, h2, _, h4, _⟩ := hR
  obtain ⟨v, hv⟩ : ∃ v, cs[1]? = some v := ⟨_, Array.getElem?_eq_getElem (by rw [h2]; decide)⟩
  have hRI := h4 1 v [2, 0] hv rfl
  obtain ⟨A6, c6, rfl⟩ := Kd.R_slice hRI
  obtain ⟨_, _, hC6⟩ := Kd.R_reads' hRI
  obtain ⟨ad6, rfl, hx6⟩ := C_int hC6 0 2 rfl
  obtain ⟨ad7, e7, hx7⟩ := C_int hC6 1 0 rfl
  obtain rfl : ad6 = ad7 := Option.some.inj e7
  obtain ⟨g, rfl⟩ := Kd.R_head hRI
  exact ⟨G, g, c6, rfl, (blk_cell h1 1).trans hv, hx6, hx7, BL5⟩
set_option maxHeartbeats 400000 in
set_option maxRecDepth 100000 in
theorem awake_c (w : World) : Calls Try.prog 28 #[] w fun e w' => e = .returned (.bool true) ∧ Below w.heap.size w w' := by
  go_enter Try.func28, Try.ntmps28
  go_wp2_with (first
    | (go_at_call 29; (with_reducible refine (new_c w).mono ?_); rintro e w1 ⟨rfl, hT1, hb1⟩
       have T1 := Aside0.mk hT1
       have B1 := Aside0.mk hb1
       clear hT1 hb1)
    | (go_at_call 31; (with_reducible refine (id_1 (below_size B1.out) T1.out).mono ?_); rintro e w2 ⟨rfl, ⟨v2, hT2⟩, hb2⟩
       have T2 := Aside0.mk hT2
       have B2 := Aside0.mk (B1.out.trans hb2)
       clear hT2 hb2)
    | (go_at_call 31; (with_reducible refine (id_2 (below_size B2.out) T2.out).mono ?_); rintro e w3 ⟨rfl, ⟨v3, hT3⟩, hb3⟩
       have T3 := Aside0.mk hT3
       have B3 := Aside0.mk (B2.out.trans hb3)
       clear hT3 hb3)
    | (go_at_call 31; (with_reducible refine (id_3 (below_size B3.out) T3.out).mono ?_); rintro e w4 ⟨rfl, ⟨v4, hT4⟩, hb4⟩
       have T4 := Aside0.mk hT4
       have B4 := Aside0.mk (B3.out.trans hb4)
       clear hT4 hb4)
    | (go_at_call 35; (with_reducible refine (all_k w4).mono ?_); rintro e w5 ⟨G, g, c6, rfl, hx5, hx6, hx7, BL5⟩
       have T5 := Aside0.mk (tab_below T4.out BL5)
       have B5 := Aside0.mk (below_step B4.out BL5)
       clear BL5)
    | ((with_reducible refine (len_2 T5.out).mono ?_); rintro e w6 ⟨rfl, rfl⟩; dsimp only)
    | ((with_reducible refine (text_1 T5.out).mono ?_); rintro e w7 ⟨rfl, rfl⟩; dsimp only))
  go_ret
  exact ⟨rfl, B5.out⟩
def sennitlaw02_awake.f (k : Nat) : Option Bool := some true
theorem sennitlaw02_awake.mono : ∀ k, LeO (sennitlaw02_awake.f k) (sennitlaw02_awake.f (k + 1)) := fun _ => LeO.refl _
theorem sennitlaw02_awake.calls (k : Nat) (r : Bool) (w : World) (h : sennitlaw02_awake.f k = some r) :
    Calls Try.prog 28 #[] w fun e w' => e = .returned (.bool r) ∧ Below w.heap.size w w' := by
  obtain rfl := Option.some.inj h
  exact awake_c w
end Go.Proofs.Ytbhfenpccccloaa.M
