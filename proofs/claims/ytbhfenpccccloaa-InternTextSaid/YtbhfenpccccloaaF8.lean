/- The law InternTells: its call. -/
import Derived.Test.YtbhfenpccccloaaPC02
namespace Go.Proofs.Ytbhfenpccccloaa.M
open Go.RowKit Go.Proofs Go.Proofs.Ytbhfenpccccloaa.Hand Go.Proofs.YtbhfenpccccloaaW.PrintWords Go.Proofs.YtbhfenpccccloaaW.PrintLast Go.Proofs.YtbhfenpccccloaaW.PrintMore
attribute [local go_sem] Oper.semAt_some
set_option linter.unusedVariables false
set_option linter.unusedSimpArgs false

def okT (v : Value) (N k : Nat) : Prop := k ≠ N + 1 ∧ k ≠ N ∧ some k ≠ v.ownBlock
theorem tab_lts {W : World} {n₀ B Bm : Nat} {v : Value} {xs : List ByteArray} (h : TabW W n₀ B Bm v xs) : B < W.heap.size ∧ Bm < W.heap.size ∧ ∀ k, v.ownBlock = some k → k < W.heap.size := by
  obtain ⟨t1, t2, ⟨D, ⟨es, clock, hb, _⟩, t4⟩, t5, t6⟩ := h
  exact ⟨blk_lt t1, (Array.getElem?_eq_some_iff.1 hb).1, Kd.R_lt t2⟩
theorem ok_fresh {W : World} {n₀ N k : Nat} {v : Value} {xs : List ByteArray} (h : TabW W n₀ (N + 1) N v xs) (hk : okT v N k ∨ W.heap.size ≤ k) : okT v N k := by
  rcases hk with hk | hk
  · exact hk
  · obtain ⟨a, b, c⟩ := tab_lts h
    exact ⟨by omega, by omega, fun e => by have := c k e.symm; omega⟩
/-- The list that the law keeps stands behind an Id. -/
theorem x_keep {W W' : World} {n₀ N b : Nat} {v v' x : Value} {xs ys : List ByteArray} (h : TabW W n₀ (N + 1) N v xs) (hx : Kd.V Kd.string 9 W b (okT v N) x ys) (hk : KeepT W W' (N + 1) N v) (hat : v'.ownBlock = v.ownBlock ∨ ∃ b, v'.ownBlock = some b ∧ W.heap.size ≤ b) : Kd.V Kd.string 9 W' b (okT v' N) x ys := by
  refine Kd.V_mono (Kd.V_step (Kd.V_bound hx) (fun k ho hlt => hk k hlt ho.1.1 ho.1.2.1 ho.1.2.2)) (fun k ho => ⟨ho.1.1, ho.1.2.1, ?_⟩)
  rcases hat with e | ⟨g, e, hg⟩
  · rw [e]; exact ho.1.2.2
  · rw [e]; intro e2; injection e2 with e2; have := ho.2; omega
theorem rd_ix (xs : List ByteArray) (s : ByteArray) : ixG xs s < (addG xs s).length ∧ rdOf ByteArray.empty (addG xs s) (ixG xs s : Int) = s := by
  have key : ∀ (zs : List ByteArray), s ∈ zs → ∃ h : ixG zs s < zs.length, zs[ixG zs s] = s := by
    intro zs
    induction zs with
    | nil => intro h; cases h
    | cons x t ih =>
      intro h
      by_cases e : x = s
      · simp [ixG, e]
      · obtain ⟨h1, h2⟩ := ih (by rcases List.mem_cons.1 h with h | h; exact absurd h.symm e; exact h)
        refine ⟨by simp only [ixG, if_neg e, List.length_cons]; omega, ?_⟩
        simp only [ixG, if_neg e, List.getElem_cons_succ]
        exact h2
  have hm : s ∈ addG xs s := by unfold addG; split; assumption; simp
  have hix : ixG (addG xs s) s = ixG xs s := by
    unfold addG
    split
    · rfl
    · next h => rw [ixG_not xs [s] s h, ixG_len xs s h]; simp [ixG]
  obtain ⟨h1, h2⟩ := key _ hm
  simp only [hix] at h1 h2
  exact ⟨h1, by rw [rdOf, Int.toNat_natCast, List.getD_eq_getElem?_getD, List.getElem?_eq_getElem h1]; exact h2⟩
theorem text_ix {W : World} {n₀ B Bm : Nat} {v : Value} {xs : List ByteArray} {s : ByteArray} (h : TabW W n₀ B Bm v (addG xs s)) :
    Calls Try.prog 33 #[.pointer (some ⟨B, 0, none⟩), .int .i64 (ixG xs s : Int)] W fun e w' => e = .returned (.string s) ∧ w' = W := by
  have h2 := text_c W n₀ B Bm v (addG xs s) (ixG xs s : Int) h
  obtain ⟨h3, h4⟩ := rd_ix xs s
  rwa [if_pos ⟨by omega, by omega⟩, h4] at h2
theorem new_g (w : World) (n₀ N : Nat) (hN : w.heap.size = N) (hn : n₀ ≤ N) : Calls Try.prog 29 #[] w fun e w' => e = .returned (.pointer (some ⟨N + 1, 0, none⟩)) ∧ TabW w' n₀ (N + 1) N (.slice none 0 0) [] ∧ Below w.heap.size w w' := by
  subst hN
  refine (new_c w).mono ?_
  rintro e w' ⟨rfl, ⟨t1, t2, t3, t5, t6⟩, hb⟩
  exact ⟨rfl, ⟨t1, Kd.R_nil _ _ _ _ _, t3, by omega, by omega⟩, hb⟩
def nS (l : List ByteArray) (i : Nat) : List ByteArray := (numL [] (l.take i) []).1

theorem nS_succ {l : List ByteArray} {i : Nat} {s : ByteArray} (h : l[i]? = some s) : nS l (i + 1) = addG (nS l i) s := by
  unfold nS; rw [take_one h, numL_snoc]
theorem nS_len (l : List ByteArray) (i : Nat) : (nS l i).length ≤ i := by
  have := (numL_len (l.take i) [] []).1
  unfold nS
  simp only [List.length_nil, List.length_take] at this
  omega

set_option maxHeartbeats 4000000 in
set_option maxRecDepth 100000 in
theorem tells_not (k : Nat) (A0 : Option Addr) (c0 : Nat) (l0 : List ByteArray) (w : World) (hr0 : Kd.C Kd.string w A0 l0.length l0) (hc0 : l0.length ≤ c0) (hF : sennitref01_Few.f k l0 40 = some false) :
    Calls Try.prog 8 #[.slice A0 l0.length c0] w fun e w' => e = .returned (.bool true) ∧ Below w.heap.size w w' := by
  have R0 := Aside0.mk hr0
  have HF := Aside0.mk hF
  clear hr0 hF
  go_enter Try.func8, Try.ntmps8
  go_wp2_with (first
    | (go_at_call 28; (with_reducible refine (awake_c _).mono ?_); rintro e w1 ⟨rfl, hb⟩
       have B1 := Aside0.mk hb
       clear hb)
    | (go_at_call 19; (with_reducible refine (sennitref01_Few.calls k A0 c0 l0 40 false w1 (Kd.C_below R0.out B1.out) hc0 HF.out).mono ?_); rintro e w2 ⟨rfl, ⟨nd, rfl⟩⟩))
  go_ret
  exact ⟨rfl, pw_below_drewN B1.out nd⟩
set_option maxHeartbeats 4000000 in
set_option maxRecDepth 100000 in
theorem tells_few (k : Nat) (A0 : Option Addr) (c0 : Nat) (l0 : List ByteArray) (w : World) (hr0 : Kd.C Kd.string w A0 l0.length l0) (hc0 : l0.length ≤ c0) (hF : sennitref01_Few.f k l0 40 = some true) (h40 : l0.length ≤ 40) (h100 : ∀ s ∈ l0, s.size ≤ 100) :
    Calls Try.prog 8 #[.slice A0 l0.length c0] w fun e w' => e = .returned (.bool true) ∧ Below w.heap.size w w' := by
  have R0 := Aside0.mk hr0
  have HF := Aside0.mk hF
  have HC := Aside0.mk hc0
  have H1 := Aside0.mk h100
  clear hr0 hF h100 hc0
  go_enter Try.func8, Try.ntmps8
  go_wp2_with (first
    | (go_at_call 28; (with_reducible refine (awake_c _).mono ?_); rintro e w1 ⟨rfl, hb⟩
       have B1 := Aside0.mk hb
       clear hb)
    | (go_at_call 19; (with_reducible refine (sennitref01_Few.calls k A0 c0 l0 40 true w1 (Kd.C_below R0.out B1.out) HC.out HF.out).mono ?_); rintro e w2 ⟨rfl, ⟨nd, rfl⟩⟩)
    | (go_at_call 29; (with_reducible refine (new_g (w1.drewN nd) w.heap.size w1.heap.size rfl (below_size B1.out)).mono ?_); rintro e w3 ⟨rfl, hT3, hb3⟩
       have T3 := Aside0.mk hT3
       have B3 := Aside0.mk (below_step (pw_below_drewN B1.out nd) hb3)
       clear hT3 hb3))
  obtain ⟨N, hN⟩ : ∃ N, w1.heap.size = N := ⟨_, rfl⟩
  rw [hN] at T3
  rw [hN]
  clear hN
  go_loopg [5, 6] l0.length (fun kq v5 v6 wr => ∃ (i : Nat) (v : Value), v6 = .int .i64 (i : Int) ∧ Aside0 (i ≤ l0.length ∧ kq = l0.length - i) ∧ Aside0 (TabW wr w.heap.size (N + 1) N v (nS l0 i)) ∧ Aside0 (Kd.V Kd.string 9 wr wr.heap.size (okT v N) v5 (nS l0 i)) ∧ Aside0 (Below w.heap.size w wr))
  case atStart => exact ⟨0, _, rfl, ⟨Nat.zero_le _, rfl⟩, T3, ⟨Kd.V_nil _ _ _ _ _⟩, B3⟩
  case round =>
    clear T3 B3
    obtain ⟨i, v, rfl, HI, HT, HX, HB⟩ := hrel
    by_cases hlt : (i : Int) < (l0.length : Int)
    · have hi : i < l0.length := by omega
      have hi0 : (0 : Int) ≤ (i : Int) := by omega
      obtain ⟨s, hs⟩ : ∃ s, l0[i]? = some s := ⟨_, List.getElem?_eq_getElem hi⟩
      obtain ⟨ad, rfl, hx0⟩ := C_str R0.out i s hs
      have HX0 := Aside0.mk hx0
      have hx := (HB.out.cell (World.block_lt_of_cell? w _ hx0)).trans hx0
      have HS := Aside0.mk (show s.size ≤ 1000000 from by have := H1.out s (List.mem_of_getElem? hs); omega)
      have HSS := Aside0.mk (nS_succ hs)
      obtain ⟨xs, hxs⟩ : ∃ xs, xs = nS l0 i := ⟨_, rfl⟩
      rw [← hxs] at HT HX HSS
      have HL := Aside0.mk (show xs.length ≤ 1000000 from by have := nS_len l0 i; rw [hxs]; omega)
      have HID := Aside0.mk (Pure.id_f xs s HL.out 1000001 (by have := HL.out; omega))
      clear hs hxs hx0
      obtain ⟨Ax, cx, rfl⟩ := Kd.V_slice HX.out
      go_wp2_with (first
        | (go_at_call 30; (with_reducible refine (sennitref02_Id.calls 1000001 (okT v N) Ax cx xs s (addG xs s) (ixG xs s : Int) _ HX.out HID.out).mono ?_); rintro e w2 ⟨v2, rfl, hV2, hb2⟩
           obtain ⟨Ay, cy, rfl⟩ := Kd.V_slice hV2
           have T2 := Aside0.mk (tab_below HT.out hb2)
           have X2 := Aside0.mk (Kd.V_mono hV2 (fun k_ hk => ok_fresh HT.out hk))
           have B2 := Aside0.mk (below_step HB.out hb2)
           clear hV2 hb2))
      all_goals (try replace hx := (B2.out.cell (World.block_lt_of_cell? w _ HX0.out)).trans HX0.out)
      refine start_ (n := 25) (S := fun w' => w'.cell? (ad.add i) = some (.string s)) (ds := []) #[false, false, false, false, false, false, false, false, false, false, false, false, false, false, false, false, false, false, false, false, false, false, false, false, false] (by kernel_rfl) rfl rfl (hx) (fun hHeld => ?_)
      refine pure_ (i := 0) (N := some 31) (v := ?_) (a' := ?_) #[true, false, false, false, false, false, false, false, false, false, false, false, false, false, false, false, false, false, false, false, false, false, false, false, false] rfl rfl (by kernel_rfl) (fun _ _ _ h => h) (Or.inl ⟨by rfl, ?_⟩) ?_ ?_
      rotate_left
      · intro w'
        go_simp
        with_reducible rfl
      rotate_left
      · simp only [Act.put, List.setIfInBounds_toArray, List.set_cons_zero, List.set_cons_succ, i64_w, i32_w]
        rfl
      refine pure_ (i := 1) (N := some 32) (v := ?_) (a' := ?_) #[true, true, false, false, false, false, false, false, false, false, false, false, false, false, false, false, false, false, false, false, false, false, false, false, false] rfl rfl (by kernel_rfl) (fun _ _ _ h => h) (Or.inl ⟨by rfl, ?_⟩) ?_ ?_
      rotate_left
      · intro w'
        go_simp
        with_reducible rfl
      rotate_left
      · simp only [Act.put, List.setIfInBounds_toArray, List.set_cons_zero, List.set_cons_succ, i64_w, i32_w]
        rfl
      refine pure_ (i := 2) (N := some 33) (v := ?_) (a' := ?_) #[true, true, true, false, false, false, false, false, false, false, false, false, false, false, false, false, false, false, false, false, false, false, false, false, false] rfl rfl (by kernel_rfl) (fun _ _ _ h => h) (Or.inl ⟨by rfl, ?_⟩) ?_ ?_
      rotate_left
      · intro w'
        go_simp
        with_reducible rfl
      rotate_left
      · simp only [Act.put, List.setIfInBounds_toArray, List.set_cons_zero, List.set_cons_succ, i64_w, i32_w]
        rfl
      refine pure_ (i := 3) (N := some 34) (v := ?_) (a' := ?_) #[true, true, true, true, false, false, false, false, false, false, false, false, false, false, false, false, false, false, false, false, false, false, false, false, false] rfl rfl (by kernel_rfl) (fun _ _ _ h => h) (Or.inl ⟨by rfl, ?_⟩) ?_ ?_
      rotate_left
      · intro w'
        go_simp
        with_reducible rfl
      rotate_left
      · simp only [Act.put, List.setIfInBounds_toArray, List.set_cons_zero, List.set_cons_succ, i64_w, i32_w]
        rfl
      refine pure_ (i := 6) (N := some 37) (v := ?_) (a' := ?_) #[true, true, true, true, false, false, true, false, false, false, false, false, false, false, false, false, false, false, false, false, false, false, false, false, false] rfl rfl (by kernel_rfl) (fun _ _ _ h => h) (Or.inl ⟨by rfl, ?_⟩) ?_ ?_
      rotate_left
      · intro w'
        go_simp
        with_reducible rfl
      rotate_left
      · simp only [Act.put, List.setIfInBounds_toArray, List.set_cons_zero, List.set_cons_succ, i64_w, i32_w]
        rfl
      refine take_ (i := 4) (N := some 35) (v := ?_) (a' := ?_) #[true, true, true, true, true, false, true, false, false, false, false, false, false, false, false, false, false, false, false, false, false, false, false, false, false] rfl rfl (by kernel_rfl) (fun _ _ _ h => h) (Or.inl ⟨by rfl, ?_⟩) hHeld ?_ ?_
      rotate_left
      · intro w' s0
        go_simp
        with_reducible rfl
      rotate_left
      · simp only [Act.put, List.setIfInBounds_toArray, List.set_cons_zero, List.set_cons_succ, i64_w, i32_w]
        rfl
      refine one_ (i := 5) (N := some 36) #[true, true, true, true, true, true, true, false, false, false, false, false, false, false, false, false, false, false, false, false, false, false, false, false, false] rfl rfl (by kernel_rfl) (by decide) (fun K hK => ?_)
      replace hHeld := hHeld
      refine goes_ Try.func31 (by kernel_rfl) rfl #[.pointer (some ⟨N + 1, 0, none⟩), .string s] (by rfl) rfl rfl (by simp only [List.map_toArray, List.map_cons, List.map_nil]; rfl) ?_
      with_reducible refine (id_c _ w.heap.size (N + 1) N v xs s HS.out HL.out (below_size (below_drew B2.out)) (tab_below T2.out (below_drew (Below.refl _ _)))).mono ?_
      rintro e w5 ⟨rfl, hT5, hk5, hb5⟩
      refine ⟨_, rfl, ?_⟩
      obtain ⟨v5, ht5, hat5⟩ := hT5
      have T5 := Aside0.mk ht5
      have X5 := Aside0.mk (x_keep (tab_below T2.out (below_drew (Below.refl _ _))) (Kd.V_drew X2.out) hk5 hat5)
      have B5 := Aside0.mk ((below_drew B2.out).trans hb5)
      clear ht5 hk5 hb5 hat5
      refine hK.out _ _ (((B5.out.cell (World.block_lt_of_cell? w _ HX0.out)).trans HX0.out)) (fun hHeld => ?_)
      clear hK K
      refine norm_ (a' := ?_) ?_ ?_
      rotate_left
      · show Act.put _ (some 36) _ = _
        simp only [Act.put, List.setIfInBounds_toArray, List.set_cons_zero, List.set_cons_succ, i64_w, i32_w]
        rfl
      refine pure_ (i := 7) (N := some 38) (v := ?_) (a' := ?_) #[true, true, true, true, true, true, true, true, false, false, false, false, false, false, false, false, false, false, false, false, false, false, false, false, false] rfl rfl (by kernel_rfl) (fun _ _ _ h => h) (Or.inl ⟨by rfl, ?_⟩) ?_ ?_
      rotate_left
      · intro w'
        go_simp
        with_reducible rfl
      rotate_left
      · simp only [Act.put, List.setIfInBounds_toArray, List.set_cons_zero, List.set_cons_succ, i64_w, i32_w]
        rfl
      refine pure_ (i := 8) (N := some 39) (v := ?_) (a' := ?_) #[true, true, true, true, true, true, true, true, true, false, false, false, false, false, false, false, false, false, false, false, false, false, false, false, false] rfl rfl (by kernel_rfl) (fun _ _ _ h => h) (Or.inl ⟨by rfl, ?_⟩) ?_ ?_
      rotate_left
      · intro w'
        go_simp
        with_reducible rfl
      rotate_left
      · simp only [Act.put, List.setIfInBounds_toArray, List.set_cons_zero, List.set_cons_succ, i64_w, i32_w]
        rfl
      refine pure_ (i := 9) (N := some 40) (v := ?_) (a' := ?_) #[true, true, true, true, true, true, true, true, true, true, false, false, false, false, false, false, false, false, false, false, false, false, false, false, false] rfl rfl (by kernel_rfl) (fun _ _ _ h => h) (Or.inl ⟨by rfl, ?_⟩) ?_ ?_
      rotate_left
      · intro w'
        go_simp
        with_reducible rfl
      rotate_left
      · simp only [Act.put, List.setIfInBounds_toArray, List.set_cons_zero, List.set_cons_succ, i64_w, i32_w]
        rfl
      refine pure_ (i := 11) (N := some 42) (v := ?_) (a' := ?_) #[true, true, true, true, true, true, true, true, true, true, false, true, false, false, false, false, false, false, false, false, false, false, false, false, false] rfl rfl (by kernel_rfl) (fun _ _ _ h => h) (Or.inl ⟨by rfl, ?_⟩) ?_ ?_
      rotate_left
      · intro w'
        go_simp
        with_reducible rfl
      rotate_left
      · simp only [Act.put, List.setIfInBounds_toArray, List.set_cons_zero, List.set_cons_succ, i64_w, i32_w]
        rfl
      refine pure_ (i := 12) (N := some 43) (v := ?_) (a' := ?_) #[true, true, true, true, true, true, true, true, true, true, false, true, true, false, false, false, false, false, false, false, false, false, false, false, false] rfl rfl (by kernel_rfl) (fun _ _ _ h => h) (Or.inl ⟨by rfl, ?_⟩) ?_ ?_
      rotate_left
      · intro w'
        go_simp
        with_reducible rfl
      rotate_left
      · simp only [Act.put, List.setIfInBounds_toArray, List.set_cons_zero, List.set_cons_succ, i64_w, i32_w]
        rfl
      refine one_ (i := 10) (N := some 41) #[true, true, true, true, true, true, true, true, true, true, true, true, true, false, false, false, false, false, false, false, false, false, false, false, false] rfl rfl (by kernel_rfl) (by decide) (fun K hK => ?_)
      replace hHeld := hHeld
      refine goes_ Try.func32 (by kernel_rfl) rfl #[.pointer (some ⟨N + 1, 0, none⟩)] (by rfl) rfl rfl (by simp only [List.map_toArray, List.map_cons, List.map_nil]; rfl) ?_
      with_reducible refine (len_c _ w.heap.size (N + 1) N v5 (addG xs s) T5.out).mono ?_
      rintro e w6 ⟨rfl, rfl⟩
      refine ⟨_, rfl, ?_⟩
      refine hK.out _ _ (hHeld) (fun hHeld => ?_)
      clear hK K
      refine norm_ (a' := ?_) ?_ ?_
      rotate_left
      · show Act.put _ (some 41) _ = _
        simp only [Act.put, List.setIfInBounds_toArray, List.set_cons_zero, List.set_cons_succ, i64_w, i32_w]
        rfl
      refine pure_ (i := 13) (N := some 44) (v := ?_) (a' := ?_) #[true, true, true, true, true, true, true, true, true, true, true, true, true, true, false, false, false, false, false, false, false, false, false, false, false] rfl rfl (by kernel_rfl) (fun _ _ _ h => h) (Or.inl ⟨by rfl, ?_⟩) ?_ ?_
      rotate_left
      · intro w'
        go_simp
        with_reducible rfl
      rotate_left
      · simp only [Act.put, List.setIfInBounds_toArray, List.set_cons_zero, List.set_cons_succ, i64_w, i32_w]
        rfl
      refine pure_ (i := 14) (N := some 45) (v := ?_) (a' := ?_) #[true, true, true, true, true, true, true, true, true, true, true, true, true, true, true, false, false, false, false, false, false, false, false, false, false] rfl rfl (by kernel_rfl) (fun _ _ _ h => h) (Or.inl ⟨by rfl, ?_⟩) ?_ ?_
      rotate_left
      · intro w'
        go_simp
        with_reducible rfl
      rotate_left
      · simp only [Act.put, List.setIfInBounds_toArray, List.set_cons_zero, List.set_cons_succ, i64_w, i32_w]
        rfl
      refine pure_ (i := 15) (N := some 46) (v := ?_) (a' := ?_) #[true, true, true, true, true, true, true, true, true, true, true, true, true, true, true, true, false, false, false, false, false, false, false, false, false] rfl rfl (by kernel_rfl) (fun _ _ _ h => h) (Or.inl ⟨by rfl, ?_⟩) ?_ ?_
      rotate_left
      · intro w'
        go_simp
        with_reducible rfl
      rotate_left
      · simp only [Act.put, List.setIfInBounds_toArray, List.set_cons_zero, List.set_cons_succ, i64_w, i32_w]
        rfl
      refine pure_ (i := 16) (N := some 47) (v := ?_) (a' := ?_) #[true, true, true, true, true, true, true, true, true, true, true, true, true, true, true, true, true, false, false, false, false, false, false, false, false] rfl rfl (by kernel_rfl) (fun _ _ _ h => h) (Or.inl ⟨by rfl, ?_⟩) ?_ ?_
      rotate_left
      · intro w'
        go_simp
        with_reducible rfl
      rotate_left
      · simp only [Act.put, List.setIfInBounds_toArray, List.set_cons_zero, List.set_cons_succ, i64_w, i32_w]
        rfl
      refine pure_ (i := 17) (N := some 48) (v := ?_) (a' := ?_) #[true, true, true, true, true, true, true, true, true, true, true, true, true, true, true, true, true, true, false, false, false, false, false, false, false] rfl rfl (by kernel_rfl) (fun _ _ _ h => h) (Or.inl ⟨by rfl, ?_⟩) ?_ ?_
      rotate_left
      · intro w'
        go_simp
        with_reducible rfl
      rotate_left
      · simp only [Act.put, List.setIfInBounds_toArray, List.set_cons_zero, List.set_cons_succ, i64_w, i32_w]
        rfl
      refine pure_ (i := 19) (N := some 50) (v := ?_) (a' := ?_) #[true, true, true, true, true, true, true, true, true, true, true, true, true, true, true, true, true, true, false, true, false, false, false, false, false] rfl rfl (by kernel_rfl) (fun _ _ _ h => h) (Or.inl ⟨by rfl, ?_⟩) ?_ ?_
      rotate_left
      · intro w'
        go_simp
        with_reducible rfl
      rotate_left
      · simp only [Act.put, List.setIfInBounds_toArray, List.set_cons_zero, List.set_cons_succ, i64_w, i32_w]
        rfl
      refine pure_ (i := 20) (N := some 51) (v := ?_) (a' := ?_) #[true, true, true, true, true, true, true, true, true, true, true, true, true, true, true, true, true, true, false, true, true, false, false, false, false] rfl rfl (by kernel_rfl) (fun _ _ _ h => h) (Or.inl ⟨by rfl, ?_⟩) ?_ ?_
      rotate_left
      · intro w'
        go_simp
        with_reducible rfl
      rotate_left
      · simp only [Act.put, List.setIfInBounds_toArray, List.set_cons_zero, List.set_cons_succ, i64_w, i32_w]
        rfl
      refine pure_ (i := 21) (N := some 52) (v := ?_) (a' := ?_) #[true, true, true, true, true, true, true, true, true, true, true, true, true, true, true, true, true, true, false, true, true, true, false, false, false] rfl rfl (by kernel_rfl) (fun _ _ _ h => h) (Or.inl ⟨by rfl, ?_⟩) ?_ ?_
      rotate_left
      · intro w'
        go_simp
        with_reducible rfl
      rotate_left
      · simp only [Act.put, List.setIfInBounds_toArray, List.set_cons_zero, List.set_cons_succ, i64_w, i32_w]
        rfl
      refine take_ (i := 22) (N := some 53) (v := ?_) (a' := ?_) #[true, true, true, true, true, true, true, true, true, true, true, true, true, true, true, true, true, true, false, true, true, true, true, false, false] rfl rfl (by kernel_rfl) (fun _ _ _ h => h) (Or.inl ⟨by rfl, ?_⟩) hHeld ?_ ?_
      rotate_left
      · intro w' s0
        go_simp
        with_reducible rfl
      rotate_left
      · simp only [Act.put, List.setIfInBounds_toArray, List.set_cons_zero, List.set_cons_succ, i64_w, i32_w]
        rfl
      refine one_ (i := 18) (N := some 49) #[true, true, true, true, true, true, true, true, true, true, true, true, true, true, true, true, true, true, true, true, true, true, true, false, false] rfl rfl (by kernel_rfl) (by decide) (fun K hK => ?_)
      replace hHeld := hHeld
      refine goes_ Try.func33 (by kernel_rfl) rfl #[.pointer (some ⟨N + 1, 0, none⟩), .int .i64 (ixG xs s : Int)] (by rfl) rfl rfl (by simp only [List.map_toArray, List.map_cons, List.map_nil]; rfl) ?_
      with_reducible refine (text_ix T5.out).mono ?_
      rintro e w7 ⟨rfl, rfl⟩
      refine ⟨_, rfl, ?_⟩
      refine hK.out _ _ (hHeld) (fun hHeld => ?_)
      clear hK K
      refine norm_ (a' := ?_) ?_ ?_
      rotate_left
      · show Act.put _ (some 49) _ = _
        simp only [Act.put, List.setIfInBounds_toArray, List.set_cons_zero, List.set_cons_succ, i64_w, i32_w]
        rfl
      refine pure_ (i := 23) (N := some 54) (v := ?_) (a' := ?_) #[true, true, true, true, true, true, true, true, true, true, true, true, true, true, true, true, true, true, true, true, true, true, true, true, false] rfl rfl (by kernel_rfl) (fun _ _ _ h => h) (Or.inl ⟨by rfl, ?_⟩) ?_ ?_
      rotate_left
      · intro w'
        go_simp
        with_reducible rfl
      rotate_left
      · simp only [Act.put, List.setIfInBounds_toArray, List.set_cons_zero, List.set_cons_succ, i64_w, i32_w]
        rfl
      refine pure_ (i := 24) (N := some 55) (v := ?_) (a' := ?_) #[true, true, true, true, true, true, true, true, true, true, true, true, true, true, true, true, true, true, true, true, true, true, true, true, true] rfl rfl (by kernel_rfl) (fun _ _ _ h => h) (Or.inl ⟨by rfl, ?_⟩) ?_ ?_
      rotate_left
      · intro w'
        go_simp
        with_reducible rfl
      rotate_left
      · simp only [Act.put, List.setIfInBounds_toArray, List.set_cons_zero, List.set_cons_succ, i64_w, i32_w]
        rfl
      refine done_ (by kernel_rfl) ?_

      go_wp2
      go_roundg (l0.length - (i + 1))
      case measure => have := HI.out; omega
      case rel => exact ⟨i + 1, v5, by first | rfl | (simp; unfold wrap64; omega), ⟨by omega, rfl⟩, ⟨by rw [HSS.out]; exact T5.out⟩, ⟨by rw [HSS.out]; exact X5.out⟩, B5⟩
    · have hil : i = l0.length := by have := HI.out; omega
      obtain ⟨Ax, cx, rfl⟩ := Kd.V_slice HX.out
      go_wp2_with (first | ((with_reducible refine (len_c _ _ _ _ _ _ HT.out).mono ?_); rintro e w6 ⟨rfl, rfl⟩; dsimp only))
      go_ret
      exact ⟨rfl, HB.out⟩
def sennitlaw02_InternTells.f (k : Nat) (l0 : List ByteArray) : Option Bool := (sennitref01_Few.f k l0 40).bind fun t => if t = true then (if l0.length ≤ 40 then (if (l0.all fun s => decide (s.size ≤ 100)) = true then some true else none) else none) else some true
theorem sennitlaw02_InternTells.calls (k : Nat) (A0 : Option Addr) (c0 : Nat) (l0 : List ByteArray) (r : Bool) (w : World) (hr0 : Kd.C Kd.string w A0 l0.length l0) (hc0 : l0.length ≤ c0) (h : sennitlaw02_InternTells.f k l0 = some r) :
    Calls Try.prog 8 #[.slice A0 l0.length c0] w fun e w' => e = .returned (.bool r) ∧ Below w.heap.size w w' := by
  unfold sennitlaw02_InternTells.f at h
  obtain ⟨t, ht, h⟩ := Option.bind_eq_some_iff.1 h
  cases t with
  | false =>
    rw [if_neg (by decide)] at h
    obtain rfl := Option.some.inj h
    exact tells_not k A0 c0 l0 w hr0 hc0 ht
  | true =>
    rw [if_pos rfl] at h
    split at h
    · split at h
      · next h40 h100 =>
        obtain rfl := Option.some.inj h
        exact tells_few k A0 c0 l0 w hr0 hc0 ht h40 (fun s hs => by simpa using List.all_eq_true.1 h100 s hs)
      · cases h
    · cases h
end Go.Proofs.Ytbhfenpccccloaa.M
