/- intern.All: what it answers. -/
import Derived.Test.YtbhfenpccccloaaH12
import Derived.Test.YtbhfenpccccloaaF0
namespace Go.Proofs.Ytbhfenpccccloaa.M
open Go.RowKit Go.Proofs Go.Proofs.Ytbhfenpccccloaa.Hand Go.Proofs.YtbhfenpccccloaaW.PrintWords Go.Proofs.YtbhfenpccccloaaW.PrintLast Go.Proofs.YtbhfenpccccloaaW.PrintMore
attribute [local go_sem] Oper.semAt_some
set_option linter.unusedVariables false
set_option linter.unusedSimpArgs false

theorem numL_snoc : ∀ (l xs : List ByteArray) (ids : List Int) (s : ByteArray), numL xs (l ++ [s]) ids = (addG (numL xs l ids).1 s, (numL xs l ids).2 ++ [(ixG (numL xs l ids).1 s : Int)]) := by
  intro l
  induction l with
  | nil => intro xs ids s; rfl
  | cons a t ih => intro xs ids s; simp only [List.cons_append, numL]; exact ih _ _ _
theorem numA_snoc : ∀ (fs : List (List ByteArray)) (xs : List ByteArray) (out : List (List Int)) (l : List ByteArray), numA xs (fs ++ [l]) out = ((numL (numA xs fs out).1 l []).1, (numA xs fs out).2 ++ [(numL (numA xs fs out).1 l []).2]) := by
  intro fs
  induction fs with
  | nil => intro xs out l; rfl
  | cons a t ih => intro xs out l; simp only [List.cons_append, numA]; exact ih _ _ _
theorem numA_len1 : ∀ (fs : List (List ByteArray)) (xs : List ByteArray) (out : List (List Int)), (∀ l ∈ fs, l.length ≤ 100) → (numA xs fs out).1.length ≤ xs.length + 100 * fs.length := by
  intro fs
  induction fs with
  | nil => intro xs out _; simp [numA]
  | cons a t ih =>
    intro xs out h
    have h1 := ih (numL xs a []).1 (out ++ [(numL xs a []).2]) (fun l hl => h l (List.mem_cons_of_mem _ hl))
    have h2 := (numL_len a xs []).1
    have h3 := h a (List.mem_cons_self ..)
    simp only [numA, List.length_cons]
    omega
theorem take_one {α : Type} {l : List α} {k : Nat} {s : α} (h : l[k]? = some s) : l.take (k + 1) = l.take k ++ [s] := by rw [List.take_add_one, h]; rfl
theorem madeN (z : Value) (hz : z.cells = #[z]) (n : Nat) : madeCells #[z] n = Array.replicate n z := by
  apply Array.ext_getElem?
  intro i
  by_cases h : i < n <;> simp [madeCells, Array.getElem?_replicate, h, Nat.mod_one]
theorem tab_below {W W' : World} {n₀ B Bm : Nat} {v : Value} {xs : List ByteArray} (h : TabW W n₀ B Bm v xs) (hb : Below W.heap.size W W') : TabW W' n₀ B Bm v xs := by
  obtain ⟨t1, t2, ⟨D, t3, t4⟩, t5, t6⟩ := h
  exact ⟨(hb.block _ (blk_lt t1)).trans t1, Kd.R_mono (Kd.R_step (Kd.R_tight rfl t2) (fun k _ hlt => hb.block k hlt)) (fun _ _ => trivial), ⟨D, t3.kept (grown_of_below hb none) (by simp), t4⟩, t5, t6⟩
theorem rows_below {W W' : World} {n₀ G : Nat} {cs : Array Value} {rows : List (List Int)} (h : Rows W n₀ G cs rows) (hb : Below W.heap.size W W') : Rows W' n₀ G cs rows :=
  rows_step h (fun k cells t hc _ => hb.block k (blk_lt hc))
def restN (n : Nat) : List (List Int) := List.replicate n []
/-- The numbers given behind i files; and behind k texts of the next one. -/
def nX (fs : List (List ByteArray)) (i : Nat) : List ByteArray := (numA [] (fs.take i) []).1
def nO (fs : List (List ByteArray)) (i : Nat) : List (List Int) := (numA [] (fs.take i) []).2
theorem nO_len (fs : List (List ByteArray)) (i : Nat) (h : i ≤ fs.length) : (nO fs i).length = i := by unfold nO; rw [numA_len]; simp; omega
theorem nX_len (fs : List (List ByteArray)) (i : Nat) (hok : okF fs) (h : i ≤ fs.length) : (nX fs i).length ≤ 10000 := by
  have h1 := numA_len1 (fs.take i) [] [] (fun l hl => (hok.2 l (List.mem_of_mem_take hl)).1)
  have h2 := hok.1
  have h3 : (fs.take i).length ≤ 100 := by simp; omega
  unfold nX
  simp only [List.length_nil] at h1
  omega
theorem nX_succ {fs : List (List ByteArray)} {i : Nat} {l : List ByteArray} (h : fs[i]? = some l) : nX fs (i + 1) = (numL (nX fs i) l []).1 ∧ nO fs (i + 1) = nO fs i ++ [(numL (nX fs i) l []).2] := by
  unfold nX nO
  rw [take_one h, numA_snoc]
  exact ⟨rfl, rfl⟩
/-- The rows while the i-th is made. -/
theorem rows_mid {α : Type} {a : List α} {i : Nat} {x : α} {b : List α} (h : a.length = i) : (a ++ x :: b)[i]? = some x ∧ ∀ y, (a ++ x :: b).set i y = a ++ y :: b := by
  subst h
  refine ⟨by simp, fun y => by simp⟩

set_option maxHeartbeats 8000000 in
set_option maxRecDepth 100000 in
theorem all_c (A0 : Option Addr) (c0 : Nat) (fs : List (List ByteArray)) (w : World) (hr0 : Kd.C (Kd.slice 9 Kd.string) w A0 fs.length fs) (hc0 : fs.length ≤ c0) (hok : okF fs) :
    Calls Try.prog 35 #[.slice A0 fs.length c0] w fun e w' => ∃ G cs, e = .returned (.slice (some ⟨G, 0, none⟩) fs.length fs.length) ∧ Rows w' w.heap.size G cs (numA [] fs []).2 ∧ Below w.heap.size w w' := by
  have HR := Aside0.mk hr0
  have HC := Aside0.mk hc0
  have HK := Aside0.mk hok
  have hm100 := hok.1
  have hmk := print_make_of (P := Try.prog) 40 44 (.slice none 0 0) 24 Try.underlying40 info44 rfl (by decide) fs.length (by omega)
  clear hr0 hc0 hok
  go_enter Try.func35, Try.ntmps35
  go_wp2_with (first
    | (go_at_call 29; refine (new_c w).mono ?_; rintro e w1 ⟨rfl, hT1, hb1⟩
       have T1 := Aside0.mk hT1
       have B1 := Aside0.mk hb1
       clear hT1 hb1))
  obtain ⟨W2, hW2⟩ : ∃ W2, w1.alloc (.cells (madeCells #[.slice none 0 0] fs.length) 44) = W2 := ⟨_, rfl⟩
  obtain ⟨G, hG⟩ : ∃ G, w1.heap.size = G := ⟨_, rfl⟩
  have hT2 : TabW W2 w.heap.size (w.heap.size + 1) w.heap.size (.slice none 0 0) (nX fs 0) := by
    rw [← hW2]
    obtain ⟨t1, t2, ⟨D, t3, t4⟩, t5, t6⟩ := T1.out
    exact ⟨(below_alloc (Below.refl w1.heap.size w1) _).block _ (blk_lt t1) |>.trans t1, Kd.R_nil _ _ _ _ _, ⟨D, t3.alloc _, t4⟩, t5, t6⟩
  have hR2 : Rows W2 w.heap.size G (Array.replicate fs.length (.slice none 0 0)) (nO fs 0 ++ restN (fs.length - 0)) := by
    rw [← hW2, ← hG]
    refine rows_made ?_ (below_size B1.out)
    rw [← madeN _ rfl]
    exact Go.heap_alloc_new w1 _
  have hB2 : Below w.heap.size w W2 := by rw [← hW2]; exact below_alloc B1.out _
  have T2 := Aside0.mk hT2
  have R2 := Aside0.mk hR2
  have B2 := Aside0.mk hB2
  rw [hW2, hG]
  clear hT2 hR2 hB2 hW2 T1 B1 hmk hG
  go_loopg [15] fs.length (fun kq v15 wr => ∃ (i : Nat) (v : Value) (cs : Array Value), v15 = .int .i64 (i : Int) ∧ Aside0 (i ≤ fs.length ∧ kq = fs.length - i) ∧ Aside0 (TabW wr w.heap.size (w.heap.size + 1) w.heap.size v (nX fs i)) ∧ Aside0 (Rows wr w.heap.size G cs (nO fs i ++ restN (fs.length - i))) ∧ Aside0 (Below w.heap.size w wr))
  case atStart => exact ⟨0, _, _, rfl, ⟨Nat.zero_le _, rfl⟩, T2, R2, B2⟩
  case round =>
    clear T2 R2 B2
    obtain ⟨i, v, cs, rfl, HI, HT, HRS, HB⟩ := hrel
    by_cases hlt : (i : Int) < (fs.length : Int)
    · have hi : i < fs.length := by omega
      obtain ⟨l, hl⟩ : ∃ l, fs[i]? = some l := ⟨_, List.getElem?_eq_getElem hi⟩
      obtain ⟨ad, A1, c1, rfl, hx, hlc, hC1⟩ := C_row HR.out i l hl
      replace hx := (HB.out.cell (World.block_lt_of_cell? w _ hx)).trans hx
      have HC1 := Aside0.mk hC1
      have HLC := Aside0.mk hlc
      have HL0 := Aside0.mk hl
      have hlm := (HK.out.2 l (List.mem_of_getElem? hl)).1
      have HLM := Aside0.mk hlm
      have HSM := Aside0.mk (HK.out.2 l (List.mem_of_getElem? hl)).2
      have HX0 := Aside0.mk (nX_len fs i HK.out (by omega))
      have HO0 := Aside0.mk (nO_len fs i (by omega))
      have RS := Aside0.mk (show Rows _ w.heap.size G cs (nO fs i ++ (numL (nX fs i) (l.take 0) []).2 :: restN (fs.length - (i + 1))) from by
        have := HRS.out
        rwa [show fs.length - i = (fs.length - (i + 1)) + 1 from by omega, restN, List.replicate_succ] at this)
      have TS := Aside0.mk (show TabW _ w.heap.size (w.heap.size + 1) w.heap.size v (numL (nX fs i) (l.take 0) []).1 from HT.out)
      clear hl hC1 hlc HRS HT
      have hi0 : (0 : Int) ≤ (i : Int) := by omega
      go_wp2
      go_loopg [22] l.length (fun kq v22 wr => ∃ (k : Nat) (v : Value) (cs : Array Value), v22 = .int .i64 (k : Int) ∧ Aside0 (k ≤ l.length ∧ kq = l.length - k) ∧ Aside0 (TabW wr w.heap.size (w.heap.size + 1) w.heap.size v (numL (nX fs i) (l.take k) []).1) ∧ Aside0 (Rows wr w.heap.size G cs (nO fs i ++ (numL (nX fs i) (l.take k) []).2 :: restN (fs.length - (i + 1)))) ∧ Aside0 (Below w.heap.size w wr))
      case atStart => exact ⟨0, _, _, rfl, ⟨Nat.zero_le _, rfl⟩, TS, RS, HB⟩
      case round =>
        clear TS RS HB hx v cs
        obtain ⟨k, v, cs, rfl, HKK, HTD, HRD, HB⟩ := hrel
        by_cases hlk : (k : Int) < (l.length : Int)
        · have hk : k < l.length := by omega
          obtain ⟨s, hs⟩ : ∃ s, l[k]? = some s := ⟨_, List.getElem?_eq_getElem hk⟩
          obtain ⟨ad1, rfl, hx1⟩ := C_str HC1.out k s hs
          replace hx1 := (HB.out.cell (World.block_lt_of_cell? w _ hx1)).trans hx1
          have HS := Aside0.mk (show s.size ≤ 1000000 from by have := HSM.out s (List.mem_of_getElem? hs); omega)
          have HS1 := Aside0.mk hs
          obtain ⟨xs, hxs⟩ : ∃ xs, xs = (numL (nX fs i) (l.take k) []).1 := ⟨_, rfl⟩
          obtain ⟨row, hrow⟩ : ∃ row, row = (numL (nX fs i) (l.take k) []).2 := ⟨_, rfl⟩
          have hnl := numL_len (l.take k) (nX fs i) []
          have htl : (l.take k).length = k := by simp; omega
          rw [← hxs] at HTD
          rw [← hrow] at HRD
          rw [← hxs, ← hrow] at hnl
          have HL := Aside0.mk (show xs.length ≤ 1000000 from by have := hnl.1; have := HX0.out; omega)
          have HRL := Aside0.mk (show row.length ≤ 100 from by have := hnl.2; simp only [List.length_nil] at this; omega)
          have HXS := Aside0.mk hxs
          have HROW := Aside0.mk hrow
          have hmid := rows_mid (x := row) (b := restN (fs.length - (i + 1))) HO0.out
          have hics : i < cs.size := by rw [HRD.out.2.1]; simp [HO0.out, restN]
          obtain ⟨vi, hvi⟩ : ∃ vi, cs[i]? = some vi := ⟨_, Array.getElem?_eq_getElem hics⟩
          obtain ⟨Ai, ci, rfl⟩ := Kd.R_slice (HRD.out.2.2.2.1 i vi row hvi hmid.1)
          have HVI := Aside0.mk hvi
          have HRW := Aside0.mk hmid.1
          have HMS := Aside0.mk (hmid.2 (row ++ [(ixG xs s : Int)]))
          have hci := (blk_cell HRD.out.1 i).trans hvi
          clear hs hxs hrow hnl htl hmid hics hvi hlm
          go_wp2
          refine start_ (n := 13) (S := fun w' => w'.cell? ⟨G, i, none⟩ = some (.slice Ai row.length ci)) (ds := [10, 12]) #[false, false, false, false, false, false, false, false, false, false, false, false, false] (by kernel_rfl) rfl rfl (hci) (fun hHeld => ?_)
          refine pure_ (i := 0) (N := some 26) (v := ?_) (a' := ?_) #[true, false, false, false, false, false, false, false, false, false, false, false, false] rfl rfl (by kernel_rfl) (fun _ _ _ h => h) (Or.inl ⟨by rfl, ?_⟩) ?_ ?_
          rotate_left
          · intro w'
            go_simp
            with_reducible rfl
          rotate_left
          · simp only [Act.put, List.setIfInBounds_toArray, List.set_cons_zero, List.set_cons_succ, i64_w, i32_w]
            rfl
          refine pure_ (i := 1) (N := some 27) (v := ?_) (a' := ?_) #[true, true, false, false, false, false, false, false, false, false, false, false, false] rfl rfl (by kernel_rfl) (fun _ _ _ h => h) (Or.inl ⟨by rfl, ?_⟩) ?_ ?_
          rotate_left
          · intro w'
            go_simp
            with_reducible rfl
          rotate_left
          · simp only [Act.put, List.setIfInBounds_toArray, List.set_cons_zero, List.set_cons_succ, i64_w, i32_w]
            rfl
          refine pure_ (i := 2) (N := some 28) (v := ?_) (a' := ?_) #[true, true, true, false, false, false, false, false, false, false, false, false, false] rfl rfl (by kernel_rfl) (fun _ _ _ h => h) (Or.inl ⟨by rfl, ?_⟩) ?_ ?_
          rotate_left
          · intro w'
            go_simp
            with_reducible rfl
          rotate_left
          · simp only [Act.put, List.setIfInBounds_toArray, List.set_cons_zero, List.set_cons_succ, i64_w, i32_w]
            rfl
          refine pure_ (i := 3) (N := some 29) (v := ?_) (a' := ?_) #[true, true, true, true, false, false, false, false, false, false, false, false, false] rfl rfl (by kernel_rfl) (fun _ _ _ h => h) (Or.inl ⟨by rfl, ?_⟩) ?_ ?_
          rotate_left
          · intro w'
            go_simp
            with_reducible rfl
          rotate_left
          · simp only [Act.put, List.setIfInBounds_toArray, List.set_cons_zero, List.set_cons_succ, i64_w, i32_w]
            rfl
          refine pure_ (i := 4) (N := some 30) (v := ?_) (a' := ?_) #[true, true, true, true, true, false, false, false, false, false, false, false, false] rfl rfl (by kernel_rfl) (fun _ _ _ h => h) (Or.inl ⟨by rfl, ?_⟩) ?_ ?_
          rotate_left
          · intro w'
            go_simp
            with_reducible rfl
          rotate_left
          · simp only [Act.put, List.setIfInBounds_toArray, List.set_cons_zero, List.set_cons_succ, i64_w, i32_w]
            rfl
          refine pure_ (i := 6) (N := some 32) (v := ?_) (a' := ?_) #[true, true, true, true, true, false, true, false, false, false, false, false, false] rfl rfl (by kernel_rfl) (fun _ _ _ h => h) (Or.inl ⟨by rfl, ?_⟩) ?_ ?_
          rotate_left
          · intro w'
            go_simp
            with_reducible rfl
          rotate_left
          · simp only [Act.put, List.setIfInBounds_toArray, List.set_cons_zero, List.set_cons_succ, i64_w, i32_w]
            rfl
          refine pure_ (i := 7) (N := some 33) (v := ?_) (a' := ?_) #[true, true, true, true, true, false, true, true, false, false, false, false, false] rfl rfl (by kernel_rfl) (fun _ _ _ h => h) (Or.inl ⟨by rfl, ?_⟩) ?_ ?_
          rotate_left
          · intro w'
            go_simp
            with_reducible rfl
          rotate_left
          · simp only [Act.put, List.setIfInBounds_toArray, List.set_cons_zero, List.set_cons_succ, i64_w, i32_w]
            rfl
          refine take_ (i := 5) (N := some 31) (v := ?_) (a' := ?_) #[true, true, true, true, true, true, true, true, false, false, false, false, false] rfl rfl (by kernel_rfl) (fun _ _ _ h => h) (Or.inl ⟨by rfl, ?_⟩) hHeld ?_ ?_
          rotate_left
          · intro w' s0
            go_simp
            with_reducible rfl
          rotate_left
          · simp only [Act.put, List.setIfInBounds_toArray, List.set_cons_zero, List.set_cons_succ, i64_w, i32_w]
            rfl
          refine one_ (i := 8) (N := some 34) #[true, true, true, true, true, true, true, true, true, false, false, false, false] rfl rfl (by kernel_rfl) (by decide) (fun K hK => ?_)
          replace hHeld := hHeld
          refine goes_ Try.func31 (by kernel_rfl) rfl #[.pointer (some ⟨w.heap.size + 1, 0, none⟩), .string s] (by rfl) rfl rfl (by simp only [List.map_toArray, List.map_cons, List.map_nil]; rfl) ?_
          with_reducible refine (id_c _ w.heap.size (w.heap.size + 1) w.heap.size v xs s HS.out HL.out (below_size (below_drew HB.out)) (tab_below HTD.out (below_drew (Below.refl _ _)))).mono ?_
          rintro e w5 ⟨rfl, hT5, hk5, hb5⟩
          refine ⟨_, rfl, ?_⟩
          obtain ⟨v5, ht5, _⟩ := hT5
          have HT5 := Aside0.mk ht5
          have HR5 := Aside0.mk (rows_keep (rows_below HRD.out (below_drew (Below.refl _ _))) (tab_below HTD.out (below_drew (Below.refl _ _))) hk5)
          have HB5 := Aside0.mk ((below_drew HB.out).trans hb5)
          have HRI5 := Aside0.mk (HR5.out.2.2.2.1 i _ row HVI.out HRW.out)
          have HNE5 := Aside0.mk (Kd.R_ne HRI5.out HR5.out.1 (by decide))
          clear ht5 hk5 hb5
          refine hK.out _ _ (((blk_cell HR5.out.1 i).trans HVI.out)) (fun hHeld => ?_)
          clear hK K
          refine norm_ (a' := ?_) ?_ ?_
          rotate_left
          · show Act.put _ (some 34) _ = _
            simp only [Act.put, List.setIfInBounds_toArray, List.set_cons_zero, List.set_cons_succ, i64_w, i32_w]
            rfl
          refine one_ (i := 9) (N := some 35) #[true, true, true, true, true, true, true, true, true, true, false, false, false] rfl rfl (by kernel_rfl) (by decide) (fun K hK => ?_)
          refine value_ (w1 := ?_) (v := ?_) (by rfl) rfl ?_ ?_
          rotate_left 2
          · go_simp
            constructor
            · rfl
            · rfl
          refine hK.out _ _ ((cell_alloc_ _ hHeld)) (fun hHeld => ?_)
          clear hK K
          refine norm_ (a' := ?_) ?_ ?_
          rotate_left
          · show Act.put _ (some 35) _ = _
            simp only [Act.put, List.setIfInBounds_toArray, List.set_cons_zero, List.set_cons_succ, i64_w, i32_w]
            rfl
          refine last_ (i := 10) (N := some 36) #[true, true, true, true, true, true, true, true, true, true, true, false, false] rfl rfl (by kernel_rfl) (by decide) (fun K hK => ?_)
          refine Kd.R_append_step (Kd.int .i64) (w0 := w5) w.heap.size rfl (.tmp 31) (.tmp 35) 44 3 (.int .i64 0) 8 rfl Try.underlying44 info3 rfl (by decide) (by decide) (.slice Ai row.length ci) row (ixG xs s : Int) [.int .i64 (ixG xs s : Int)] (fun _ => True) (fun _ => False) rfl rfl rfl (fun _ hk => hk.elim) (fun _ _ => trivial) HRI5.out (Below.refl _ _) (below_size HB5.out) (by have := HRL.out; omega) ?_
          intro v6 w6 hR6 hb6 hg6 hat6
          obtain ⟨A6, k6, rfl⟩ := Kd.R_slice hR6
          have hG6 := (hg6.block G (blk_lt HR5.out.1) HNE5.out).trans HR5.out.1
          have hc6 := (blk_cell hG6 i).trans HVI.out
          have hf6 := blk_frozen hG6 i
          have R6 := Aside0.mk hR6
          have L6 := Aside0.mk hb6
          have G6 := Aside0.mk hg6
          have T6 := Aside0.mk hat6
          clear hR6 hb6 hg6 hat6 hG6
          refine hK.out _ _ ?_
          clear hK K
          refine norm_ (a' := ?_) ?_ ?_
          rotate_left
          · show Act.put _ (some 36) _ = _
            simp only [Act.put, List.setIfInBounds_toArray, List.set_cons_zero, List.set_cons_succ, i64_w, i32_w]
            rfl
          refine pure_ (i := 11) (N := some 37) (v := ?_) (a' := ?_) #[true, true, true, true, true, true, true, true, true, true, true, true, false] rfl rfl (by kernel_rfl) (fun _ _ _ h => h) (Or.inl ⟨by rfl, ?_⟩) ?_ ?_
          rotate_left
          · intro w'
            go_simp
            with_reducible rfl
          rotate_left
          · simp only [Act.put, List.setIfInBounds_toArray, List.set_cons_zero, List.set_cons_succ, i64_w, i32_w]
            rfl
          refine last_ (i := 12) (N := none) #[true, true, true, true, true, true, true, true, true, true, true, true, true] rfl rfl (by kernel_rfl) (by decide) (fun K hK => ?_)
          refine skip_ (w1 := ?_) (by rfl) rfl ?_ ?_
          rotate_left
          · go_simp
            rfl
          refine hK.out _ _ ?_
          clear hK K
          refine done_ (by kernel_rfl) ?_

          have hRn := rows_put HR5.out HVI.out HRW.out R6.out G6.out T6.out
          have hTn := tab_rows (i := i) (u1 := .slice A6 (row ++ [(ixG xs s : Int)]).length k6) HT5.out HRI5.out HR5.out.1 G6.out
          rw [List.length_append] at hRn hTn
          have HRn := Aside0.mk hRn
          have HTn := Aside0.mk hTn
          clear hRn hTn hc6 hf6
          go_wp2
          go_roundg (l.length - (k + 1))
          case measure => have := HKK.out; omega
          case rel =>
            have hst := numL_snoc (l.take k) (nX fs i) [] s
            rw [← take_one HS1.out, ← HXS.out, ← HROW.out] at hst
            refine ⟨k + 1, v5, cs.setIfInBounds i (.slice A6 (row.length + 1) k6), by have := HLM.out; first | rfl | (simp; unfold wrap64; omega), ⟨by omega, rfl⟩, ⟨?_⟩, ⟨?_⟩, ⟨?_⟩⟩
            · rw [hst]; exact HTn.out
            · rw [hst]; have := HRn.out; rwa [HMS.out] at this
            · exact (HB5.out.trans (L6.out)).setCell (p := ⟨G, i, none⟩) (by show w.heap.size ≤ G; exact HR5.out.2.2.1) _
        · have hkl : k = l.length := by have := HKK.out; omega
          have RN := Aside0.mk (show Rows _ w.heap.size G cs (nO fs (i + 1) ++ restN (fs.length - (i + 1))) from by
            have := HRD.out
            rw [hkl, List.take_length] at this
            rw [(nX_succ HL0.out).2, List.append_assoc]; exact this)
          have TN := Aside0.mk (show TabW _ w.heap.size (w.heap.size + 1) w.heap.size v (nX fs (i + 1)) from by
            have := HTD.out
            rw [hkl, List.take_length] at this
            rw [(nX_succ HL0.out).1]; exact this)
          clear hkl HTD HRD
          go_wp2
          go_roundg (fs.length - (i + 1))
          case measure => have := HI.out; omega
          case rel => exact ⟨i + 1, v, cs, by first | rfl | (simp; unfold wrap64; omega), ⟨by omega, rfl⟩, TN, RN, HB⟩
    · have hil : i = fs.length := by have := HI.out; omega
      have RN := Aside0.mk (show Rows _ w.heap.size G cs (numA [] fs []).2 from by
        have := HRS.out
        rw [hil, Nat.sub_self] at this
        simpa [nO, restN] using this)
      clear hil HT HRS
      go_wp2
      go_ret
      first | exact ⟨G, cs, rfl, RN.out, HB.out⟩ | exact ⟨G, rfl, ⟨cs, RN.out⟩, HB.out⟩
theorem rows_C {W : World} {n₀ G : Nat} {cs : Array Value} {rows : List (List Int)} (h : Rows W n₀ G cs rows) (hl : rows.length ≤ 1000000) : Kd.C (Kd.slice 3 (Kd.int .i64)) W (some ⟨G, 0, none⟩) rows.length rows := by
  obtain ⟨h1, h2, h3, h4, h5⟩ := h
  refine ⟨rfl, by omega, fun _ => ⟨_, rfl, fun j p hj => ?_⟩⟩
  have hjl : j < rows.length := (List.getElem?_eq_some_iff.1 hj).1
  obtain ⟨v, hv⟩ : ∃ v, cs[j]? = some v := ⟨_, Array.getElem?_eq_getElem (by omega)⟩
  have hR := h4 j v p hv hj
  obtain ⟨A, c, hva, hlc, hC⟩ := Kd.R_reads hR
  subst hva
  refine ⟨[.slice A p.length c], rfl, ⟨A, c, rfl, hlc, hC⟩, fun i u hu => ?_⟩
  have hi : i = 0 := by
    have := (List.getElem?_eq_some_iff.1 hu).1
    simpa using this
  subst hi
  obtain rfl : Value.slice A p.length c = u := by simpa using hu
  show W.cell? ((⟨G, 0, none⟩ : Addr).add (j * 1 + 0)) = _
  rw [add_plain, Nat.mul_one, Nat.add_zero, blk_cell h1 j]
  exact hv
theorem rows_from {W W' : World} {n₀ G : Nat} {cs : Array Value} {rows : List (List Int)} (h : Rows W n₀ G cs rows) (hk : ∀ k, n₀ ≤ k → k < W.heap.size → W'.heap[k]? = W.heap[k]?) : Rows W' n₀ G cs rows := by
  obtain ⟨h1, h2, h3, h4, h5⟩ := h
  refine ⟨(hk G h3 (Array.getElem?_eq_some_iff.1 h1).1).trans h1, h2, h3, fun k v r hv hr => ?_, h5⟩
  have hR := h4 k v r hv hr
  exact rowI_step hR (fun g hg => hk g (Kd.R_base hR g hg) (Kd.R_lt hR g hg))
def intern_All.f (k : Nat) (l0 : List (List ByteArray)) : Option (List (List Int)) := if okF l0 then some (numA [] l0 []).2 else none
theorem intern_All.mono : ∀ a0 k, LeO (intern_All.f k a0) (intern_All.f (k + 1) a0) := fun _ _ => LeO.refl _
theorem intern_All.calls (k : Nat) (A0 : Option Addr) (c0 : Nat) (l0 : List (List ByteArray)) (r : List (List Int)) (w : World) (hr0 : Kd.C (Kd.slice 9 Kd.string) w A0 l0.length l0) (hc0 : l0.length ≤ c0) (h : intern_All.f k l0 = some r) :
    Calls Try.prog 35 #[.slice A0 l0.length c0] w fun e w' => ∃ v0_ : Value, e = .returned v0_ ∧ Kd.V (Kd.slice 3 (Kd.int .i64)) 44 w' w.heap.size (fun k_ => w.heap.size ≤ k_) v0_ r ∧ Below w.heap.size w w' := by
  by_cases hok : okF l0
  · rw [intern_All.f, if_pos hok] at h
    obtain rfl := Option.some.inj h
    refine (all_c A0 c0 l0 w hr0 hc0 hok).mono ?_
    rintro e w' ⟨G, cs, rfl, hR, hB⟩
    have hl : (numA [] l0 []).2.length = l0.length := by rw [numA_len]; simp
    refine ⟨_, rfl, ?_, hB⟩
    rw [← hl]
    exact Kd.V_mk (Nat.le_refl _) (fun W' hW => rows_C (rows_from hR hW) (by rw [hl]; have := hok.1; omega))
  · rw [intern_All.f, if_neg hok] at h
    exact absurd h (by simp)
end Go.Proofs.Ytbhfenpccccloaa.M
