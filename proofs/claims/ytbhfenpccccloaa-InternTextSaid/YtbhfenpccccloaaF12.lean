/- The law InternText: its call. -/
import Derived.Test.YtbhfenpccccloaaF8
namespace Go.Proofs.Ytbhfenpccccloaa.M
open Go.RowKit Go.Proofs Go.Proofs.Ytbhfenpccccloaa.Hand Go.Proofs.YtbhfenpccccloaaW.PrintWords Go.Proofs.YtbhfenpccccloaaW.PrintLast Go.Proofs.YtbhfenpccccloaaW.PrintMore
attribute [local go_sem] Oper.semAt_some
set_option linter.unusedVariables false
set_option linter.unusedSimpArgs false

set_option maxHeartbeats 4000000 in
set_option maxRecDepth 100000 in
theorem nil_id (W : World) (s : ByteArray) : Calls Try.prog 31 #[.pointer none, .string s] W fun e w' => e = .returned (.int .i64 (-1)) ∧ w' = W := by
  go_enter Try.func31, Try.ntmps31
  go_wp2
  go_ret
  exact ⟨rfl, rfl⟩
set_option maxHeartbeats 4000000 in
set_option maxRecDepth 100000 in
theorem nil_text (W : World) (i : Int) : Calls Try.prog 33 #[.pointer none, .int .i64 i] W fun e w' => e = .returned (.string ⟨#[]⟩) ∧ w' = W := by
  go_enter Try.func33, Try.ntmps33
  go_wp2
  go_ret
  exact ⟨rfl, rfl⟩
set_option maxHeartbeats 4000000 in
set_option maxRecDepth 100000 in
theorem nil_len (W : World) : Calls Try.prog 32 #[.pointer none] W fun e w' => e = .returned (.int .i64 0) ∧ w' = W := by
  go_enter Try.func32, Try.ntmps32
  go_wp2
  go_ret
  exact ⟨rfl, rfl⟩
theorem addG_nodup {xs : List ByteArray} (s : ByteArray) (h : xs.Nodup) : (addG xs s).Nodup := by
  unfold addG
  split
  · exact h
  · next hs => exact List.nodup_append.2 ⟨h, by simp, fun a ha b hb => by rw [List.mem_singleton.1 hb]; rintro rfl; exact hs ha⟩
theorem numL_nodup : ∀ (l xs : List ByteArray) (ids : List Int), xs.Nodup → (numL xs l ids).1.Nodup := by
  intro l
  induction l with
  | nil => intro xs ids h; exact h
  | cons s t ih => intro xs ids h; exact ih _ _ (addG_nodup s h)
theorem ixG_nodup {xs : List ByteArray} (h : xs.Nodup) (i : Nat) (hi : i < xs.length) : ixG xs xs[i] = i := by
  refine Pure.ixG_at hi rfl (fun hm => ?_)
  obtain ⟨j, hj, e⟩ := List.getElem_of_mem hm
  rw [List.getElem_take] at e
  have hj2 : j < i := by simp at hj; omega
  exact (List.pairwise_iff_getElem.1 h) j i (by omega) hi hj2 e

set_option maxHeartbeats 4000000 in
set_option maxRecDepth 100000 in
theorem itext_not (k : Nat) (A0 : Option Addr) (c0 : Nat) (l0 : List ByteArray) (a1 : Int) (w : World) (hr0 : Kd.C Kd.string w A0 l0.length l0) (hc0 : l0.length ≤ c0) (hF : sennitref01_Few.f k l0 40 = some false) :
    Calls Try.prog 12 #[.slice A0 l0.length c0, .int .i64 a1] w fun e w' => e = .returned (.bool true) ∧ Below w.heap.size w w' := by
  have R0 := Aside0.mk hr0
  have HF := Aside0.mk hF
  clear hr0 hF
  go_enter Try.func12, Try.ntmps12
  go_wp2_with (first
    | (go_at_call 28; (with_reducible refine (awake_c _).mono ?_); rintro e w1 ⟨rfl, hb⟩
       have B1 := Aside0.mk hb
       clear hb)
    | (go_at_call 19; (with_reducible refine (sennitref01_Few.calls k A0 c0 l0 40 false w1 (Kd.C_below R0.out B1.out) hc0 HF.out).mono ?_); rintro e w2 ⟨rfl, ⟨nd, rfl⟩⟩))
  go_ret
  exact ⟨rfl, pw_below_drewN B1.out nd⟩
theorem text_out {W : World} {n₀ B Bm : Nat} {v : Value} {xs : List ByteArray} {i : Int} (h : TabW W n₀ B Bm v xs) (hi : ¬ (0 ≤ i ∧ i < xs.length)) :
    Calls Try.prog 33 #[.pointer (some ⟨B, 0, none⟩), .int .i64 i] W fun e w' => e = .returned (.string ⟨#[]⟩) ∧ w' = W := by
  have h2 := text_c W n₀ B Bm v xs i h
  rwa [if_neg hi] at h2
theorem text_in {W : World} {n₀ B Bm : Nat} {v : Value} {xs : List ByteArray} {i : Nat} (h : TabW W n₀ B Bm v xs) (hi : i < xs.length) :
    Calls Try.prog 33 #[.pointer (some ⟨B, 0, none⟩), .int .i64 (i : Int)] W fun e w' => e = .returned (.string xs[i]) ∧ w' = W := by
  have h2 := text_c W n₀ B Bm v xs (i : Int) h
  rwa [if_pos ⟨by omega, by omega⟩, rdOf, Int.toNat_natCast, List.getD_eq_getElem?_getD, List.getElem?_eq_getElem hi] at h2
theorem id_in {W : World} {n₀ B Bm : Nat} {v : Value} {xs : List ByteArray} {i : Nat} (h : TabW W n₀ B Bm v xs) (hn : xs.Nodup) (hi : i < xs.length) (hs : xs[i].size ≤ 1000000) :
    Calls Try.prog 31 #[.pointer (some ⟨B, 0, none⟩), .string xs[i]] W fun e w' => e = .returned (.int .i64 (i : Int)) ∧ w' = W := by
  have h2 := id_old W n₀ B Bm v xs xs[i] hs (List.getElem_mem hi) h
  rwa [ixG_nodup hn i hi] at h2
theorem addG_size {xs : List ByteArray} {s : ByteArray} {M : Nat} (h : ∀ x ∈ xs, x.size ≤ M) (hs : s.size ≤ M) : ∀ x ∈ addG xs s, x.size ≤ M := by
  intro x hx
  unfold addG at hx
  split at hx
  · exact h x hx
  · rcases List.mem_append.1 hx with hx | hx
    · exact h x hx
    · rw [List.mem_singleton.1 hx]; exact hs
theorem numL_size : ∀ (l xs : List ByteArray) (ids : List Int) (M : Nat), (∀ x ∈ xs, x.size ≤ M) → (∀ x ∈ l, x.size ≤ M) → ∀ x ∈ (numL xs l ids).1, x.size ≤ M := by
  intro l
  induction l with
  | nil => intro xs ids M h _; exact h
  | cons s t ih => intro xs ids M h hl; exact ih _ _ M (addG_size h (hl s (List.mem_cons_self ..))) (fun x hx => hl x (List.mem_cons_of_mem _ hx))

set_option maxHeartbeats 4000000 in
set_option maxRecDepth 100000 in
theorem itext_few (k : Nat) (A0 : Option Addr) (c0 : Nat) (l0 : List ByteArray) (a1 : Int) (w : World) (hr0 : Kd.C Kd.string w A0 l0.length l0) (hc0 : l0.length ≤ c0) (hF : sennitref01_Few.f k l0 40 = some true) (h40 : l0.length ≤ 40) (h100 : ∀ s ∈ l0, s.size ≤ 100) :
    Calls Try.prog 12 #[.slice A0 l0.length c0, .int .i64 a1] w fun e w' => e = .returned (.bool true) ∧ Below w.heap.size w w' := by
  have R0 := Aside0.mk hr0
  have HF := Aside0.mk hF
  have HC := Aside0.mk hc0
  have H1 := Aside0.mk h100
  clear hr0 hF h100 hc0
  go_enter Try.func12, Try.ntmps12
  go_wp2_with (first
    | (go_at_call 28; (with_reducible refine (awake_c _).mono ?_); rintro e w1 ⟨rfl, hb⟩
       have B1 := Aside0.mk hb
       clear hb)
    | (go_at_call 19; (with_reducible refine (sennitref01_Few.calls k A0 c0 l0 40 true w1 (Kd.C_below R0.out B1.out) HC.out HF.out).mono ?_); rintro e w2 ⟨rfl, ⟨nd, rfl⟩⟩)
    | (go_at_call 29; (with_reducible refine (new_g (w1.drewN nd) w.heap.size w1.heap.size rfl (below_size B1.out)).mono ?_); rintro e w3 ⟨rfl, hT3, hb3⟩
       have T3 := Aside0.mk hT3
       have B3 := Aside0.mk (below_step (pw_below_drewN B1.out nd) hb3)
       clear hT3 hb3))
  obtain ⟨N, hN⟩ : ∃ N, w1.heap.size = N := ⟨_, rfl⟩
  rw [hN] at T3
  rw [hN]
  clear hN
  go_loopg [7] l0.length (fun kq v7 wr => ∃ (i : Nat) (v : Value), v7 = .int .i64 (i : Int) ∧ Aside0 (i ≤ l0.length ∧ kq = l0.length - i) ∧ Aside0 (TabW wr w.heap.size (N + 1) N v (nS l0 i)) ∧ Aside0 (Below w.heap.size w wr))
  case atStart => exact ⟨0, _, rfl, ⟨Nat.zero_le _, rfl⟩, T3, B3⟩
  case round =>
    clear T3 B3
    obtain ⟨i, v, rfl, HI, HT, HB⟩ := hrel
    by_cases hlt : (i : Int) < (l0.length : Int)
    · have hi : i < l0.length := by omega
      have hi0 : (0 : Int) ≤ (i : Int) := by omega
      obtain ⟨s, hs⟩ : ∃ s, l0[i]? = some s := ⟨_, List.getElem?_eq_getElem hi⟩
      obtain ⟨ad, rfl, hx0⟩ := C_str R0.out i s hs
      have hx := (HB.out.cell (World.block_lt_of_cell? w _ hx0)).trans hx0
      have HS := Aside0.mk (show s.size ≤ 1000000 from by have := H1.out s (List.mem_of_getElem? hs); omega)
      have HSS := Aside0.mk (nS_succ hs)
      have HL := Aside0.mk (show (nS l0 i).length ≤ 1000000 from by have := nS_len l0 i; omega)
      clear hs hx0
      go_wp2_with (first
        | (go_at_call 31; (with_reducible refine (id_c _ w.heap.size (N + 1) N v (nS l0 i) s HS.out HL.out (below_size HB.out) HT.out).mono ?_); rintro e w2 ⟨rfl, ⟨v2, hT2, _⟩, _, hb2⟩
           rw [← HSS.out] at hT2
           have T2 := Aside0.mk hT2
           have B2 := Aside0.mk (HB.out.trans hb2)
           clear hT2 hb2))
      go_roundg (l0.length - (i + 1))
      case measure => have := HI.out; omega
      case rel => exact ⟨i + 1, v2, by first | rfl | (simp; unfold wrap64; omega), ⟨by omega, rfl⟩, T2, B2⟩
    · have hil : i = l0.length := by have := HI.out; omega
      obtain ⟨xs, hxs⟩ : ∃ xs, xs = nS l0 l0.length := ⟨_, rfl⟩
      rw [hil, ← hxs] at HT
      have HL := Aside0.mk (show xs.length ≤ l0.length from by rw [hxs]; exact nS_len l0 l0.length)
      have HN := Aside0.mk (show xs.Nodup from by rw [hxs]; exact numL_nodup _ _ _ List.nodup_nil)
      have HZ := Aside0.mk (show ∀ x ∈ xs, x.size ≤ 1000000 from by
        rw [hxs]
        exact numL_size _ _ _ _ (fun x hx => by cases hx) (fun x hx => by have := H1.out x (List.mem_of_mem_take hx); omega))
      have hxl : (xs.length : Int) ≤ (l0.length : Int) := by have := HL.out; omega
      clear hxs hil
      go_wp2_with (first
        | (go_at_call 32; (with_reducible refine (len_c _ w.heap.size (N + 1) N v xs HT.out).mono ?_); rintro e w6 ⟨rfl, rfl⟩))
      go_loopg [9] xs.length (fun kq v9 wq => ∃ j : Nat, v9 = .int .i64 (j : Int) ∧ wq = w6 ∧ Aside0 (j ≤ xs.length ∧ kq = xs.length - j))
      case atStart => exact ⟨0, rfl, rfl, ⟨Nat.zero_le _, rfl⟩⟩
      case round =>
        obtain ⟨j, rfl, rfl, HJ⟩ := hrel
        by_cases hlj : (j : Int) < (xs.length : Int)
        · have hj : j < xs.length := by omega
          have hj50 : (j : Int) < 50 := by have := HL.out; omega
          have HJT := Aside0.mk (text_in HT.out hj)
          have HJI := Aside0.mk (id_in HT.out HN.out hj (HZ.out _ (List.getElem_mem hj)))
          generalize xs[j] = sj at HJT HJI
          go_wp2_with (first
            | (go_at_call 33; (with_reducible refine HJT.out.mono ?_); rintro e w7 ⟨rfl, rfl⟩)
            | (go_at_call 31; (with_reducible refine HJI.out.mono ?_); rintro e w8 ⟨rfl, rfl⟩))
          go_roundg (xs.length - (j + 1))
          case measure => have := HJ.out; omega
          case rel => exact ⟨j + 1, by first | rfl | (have := HL.out; simp; unfold wrap64; omega), rfl, ⟨by omega, rfl⟩⟩
        · have hcase : (0 ≤ a1 ∧ a1 < (xs.length : Int)) ∨ ¬ (0 ≤ a1 ∧ a1 < (xs.length : Int)) := by omega
          have hcase2 : (0 ≤ a1 ∧ a1 < (xs.length : Int)) ∨ (0 ≤ a1 ∧ ¬ a1 < (xs.length : Int)) ∨ ¬ 0 ≤ a1 := by omega
          rcases hcase2 with ⟨g0, g1⟩ | ⟨g0, g1⟩ | g0
          · have hout : True := trivial
            clear hcase
            go_wp2_with (first
              | ((with_reducible refine (len_c _ w.heap.size (N + 1) N v xs HT.out).mono ?_); rintro e w8 ⟨rfl, rfl⟩; dsimp only)
              | ((with_reducible refine (nil_id _ _).mono ?_); rintro e w9 ⟨rfl, rfl⟩; dsimp only)
              | ((with_reducible refine (nil_text _ _).mono ?_); rintro e w10 ⟨rfl, rfl⟩; dsimp only)
              | ((with_reducible refine (nil_len _).mono ?_); rintro e w11 ⟨rfl, rfl⟩; dsimp only))
            go_ret
            exact ⟨rfl, HB.out⟩
          all_goals
            have hout : ¬ (0 ≤ a1 ∧ a1 < (xs.length : Int)) := by omega
            clear hcase
            go_wp2_with (first
              | ((with_reducible refine (text_out HT.out hout).mono ?_); rintro e w7 ⟨rfl, rfl⟩; dsimp only)
              | ((with_reducible refine (len_c _ w.heap.size (N + 1) N v xs HT.out).mono ?_); rintro e w8 ⟨rfl, rfl⟩; dsimp only)
              | ((with_reducible refine (nil_id _ _).mono ?_); rintro e w9 ⟨rfl, rfl⟩; dsimp only)
              | ((with_reducible refine (nil_text _ _).mono ?_); rintro e w10 ⟨rfl, rfl⟩; dsimp only)
              | ((with_reducible refine (nil_len _).mono ?_); rintro e w11 ⟨rfl, rfl⟩; dsimp only))
            go_ret
            exact ⟨rfl, HB.out⟩
def sennitlaw02_InternText.f (k : Nat) (l0 : List ByteArray) (a1 : Int) : Option Bool := (sennitref01_Few.f k l0 40).bind fun t => if t = true then (if l0.length ≤ 40 then (if (l0.all fun s => decide (s.size ≤ 100)) = true then some true else none) else none) else some true
theorem sennitlaw02_InternText.calls (k : Nat) (A0 : Option Addr) (c0 : Nat) (l0 : List ByteArray) (a1 : Int) (r : Bool) (w : World) (hr0 : Kd.C Kd.string w A0 l0.length l0) (hc0 : l0.length ≤ c0) (h : sennitlaw02_InternText.f k l0 a1 = some r) :
    Calls Try.prog 12 #[.slice A0 l0.length c0, .int .i64 a1] w fun e w' => e = .returned (.bool r) ∧ Below w.heap.size w w' := by
  unfold sennitlaw02_InternText.f at h
  obtain ⟨t, ht, h⟩ := Option.bind_eq_some_iff.1 h
  cases t with
  | false =>
    rw [if_neg (by decide)] at h
    obtain rfl := Option.some.inj h
    exact itext_not k A0 c0 l0 a1 w hr0 hc0 ht
  | true =>
    rw [if_pos rfl] at h
    split at h
    · split at h
      · next h40 h100 =>
        obtain rfl := Option.some.inj h
        exact itext_few k A0 c0 l0 a1 w hr0 hc0 ht h40 (fun s hs => by simpa using List.all_eq_true.1 h100 s hs)
      · cases h
    · cases h
end Go.Proofs.Ytbhfenpccccloaa.M
