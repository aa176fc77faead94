/- edit.Match: what it computes, and that the machine's call does so. -/
import Derived.Test.YtnebadlakmlkkaaH2
import Derived.Test.YtnebadlakmlkkaaF23
import Derived.Maps.AppendAt
namespace Go.Proofs.Ytnebadlakmlkkaa.M
open Go.RowKit Go.Shelf Go.Proofs Go.Proofs.Ytnebadlakmlkkaa.Hand Go.Proofs.YtnebadlakmlkkaaW.PrintWords Go.Proofs.YtnebadlakmlkkaaW.PrintLast Go.Proofs.YtnebadlakmlkkaaW.PrintMore
set_option linter.unusedVariables false
set_option linter.unusedSimpArgs false

/-- May no match have this change here? s: what keep left; b: whether it may; h: how many places there were. -/
def badG (m n : Int) (i : Nat) (h : Nat) (b : Bool) (s : List Int × Int) (c : S60) : Bool :=
  !b || ((decide (i > 0) && decide (s.1.length = h)) || (!(decide (c.f0.f0 < c.f0.f1) || decide (c.f1.f0 < c.f1.f1)) || (decide (c.f0.f1 < c.f0.f0) || (decide (c.f0.f1 > m) || (decide (c.f1.f1 < c.f1.f0) || decide (c.f1.f1 > n))))))
def matchL (m n : Int) : Nat → List S60 → List Int → Int → Option (List Int)
  | _, [], o, y => if okK m n o y m n = true then some (keepG m n o y m n).1 else none
  | i, c :: t, o, y => if badG m n i o.length (okK m n o y c.f0.f0 c.f1.f0) (keepG m n o y c.f0.f0 c.f1.f0) c = true then none
    else matchL m n (i + 1) t ((keepG m n o y c.f0.f0 c.f1.f0).1 ++ List.replicate (c.f0.f1.toNat - (keepG m n o y c.f0.f0 c.f1.f0).1.length) (-1)) c.f1.f1
def matchG (l : List S60) (m n : Int) : List Int × Int := if m > 2000 ∨ n > 2000 then ([], 4) else if m < 0 ∨ n < 0 then ([], 1) else match matchL m n 0 l [] 0 with | none => ([], 1) | some o => (o, 0)
def edit_Match.f (k : Nat) (l0 : List S60) (a1 a2 : Int) : Option (List Int × Int) := some (matchG l0 a1 a2)
theorem edit_Match.mono : ∀ a0 a1 a2 k, LeO (edit_Match.f k a0 a1 a2) (edit_Match.f (k + 1) a0 a1 a2) := fun _ _ _ _ => LeO.refl _
theorem _root_.Go.Boxed.kept_b {W w6 : World} {B : Nat} {t : TypeId} {v : Value} (h : Boxed W B t v) (hb : Below W.heap.size W w6) : Boxed w6 B t v := (hb.block B h.lt).trans h
theorem _root_.Go.Boxed.other_at {W : World} {B g : Nat} {t : TypeId} {v : Value} (h : Boxed W B t v) (hne : B ≠ g) (j : Nat) (u : Value) : Boxed (W.setCell ⟨g, j, none⟩ u) B t v := (Below.heap_setCell W ⟨g, j, none⟩ u B hne).trans h
theorem vk_below {n₀ Bo Bm Bn By : Nat} {W W' : World} {o : List Int} {y m n : Int} (h : VarsK n₀ Bo Bm Bn By W o y m n) (hb : Below W.heap.size W W') : VarsK n₀ Bo Bm Bn By W' o y m n := by
  obtain ⟨⟨v, hv, hrow, h1⟩, hm, hn, hy⟩ := h
  exact ⟨⟨v, hv.kept_b hb, pw_own_below hrow hb, h1⟩, hm.kept_b hb, hn.kept_b hb, hy.kept_b hb⟩
theorem cell_blk {W W' : World} {g i : Nat} {x : Value} (h : W'.heap[g]? = W.heap[g]?) (hc : W.cell? ⟨g, i, none⟩ = some x) : W'.cell? ⟨g, i, none⟩ = some x := by
  rw [← hc]
  simp only [World.cell?]
  rw [h]
theorem alloc_new2 (W : World) (o o' : Obj) : ((W.alloc o).alloc o').heap[W.heap.size + 1]? = some o' := by
  have := World.alloc_heap_new (W.alloc o) o'
  rwa [World.size_alloc] at this
theorem two_far {W : World} {g k : Nat} (a b : Value) (i : Nat) (hne : k ≠ g) : ((W.setCell ⟨g, 0, none⟩ a).setCell ⟨g, 1, none⟩ b).heap[k]? = W.heap[k]? :=
  (Below.heap_setCell _ ⟨g, 1, none⟩ b k hne).trans (Below.heap_setCell W ⟨g, 0, none⟩ a k hne)
theorem heap_two (W : World) {g k : Nat} {t : TypeId} {a0 b0 : Value} (hne : g ≠ k) (h : W.heap[g]? = some (.cells #[a0, b0] t (0, 0))) (a b x y : Value) : ((((W.setCell ⟨g, 0, none⟩ a).setCell ⟨g, 1, none⟩ b).setCell ⟨k, 0, none⟩ x).setCell ⟨k, 1, none⟩ y).heap[g]? = some (.cells #[a, b] t (0, 0)) :=
  (two_far x y 0 hne).trans (blk_put (cs := #[a, b0]) (blk_put h 0 a rfl) 1 b rfl)
theorem heap_two2 (W : World) {k : Nat} {t : TypeId} {a0 b0 : Value} (h : W.heap[k]? = some (.cells #[a0, b0] t (0, 0))) (g : Nat) (a b x y : Value) (hne : k ≠ g) : ((((W.setCell ⟨g, 0, none⟩ a).setCell ⟨g, 1, none⟩ b).setCell ⟨k, 0, none⟩ x).setCell ⟨k, 1, none⟩ y).heap[k]? = some (.cells #[x, y] t (0, 0)) :=
  blk_put (cs := #[x, b0]) (blk_put ((two_far a b 0 hne).trans h) 0 x rfl) 1 y rfl
theorem keep_len {m n : Int} {o : List Int} {y t e : Int} (h : o.length ≤ m.toNat) : (keepG m n o y t e).1.length ≤ m.toNat := by
  unfold keepG
  split
  · rename_i hk
    simp only [okK, Bool.and_eq_true, decide_eq_true_eq] at hk
    rw [runK_len]
    omega
  · exact h
theorem reps_I (w : World) (base : Nat) (ok : Nat → Prop) (l : List Int) : Reps ((Kd.int .i64).M w base ok) 1 l (l.map (Value.int .i64)) := by
  induction l with
  | nil => exact Reps.none _ _
  | cons x l ih => exact Reps.one rfl ih
theorem s0_ {a b c d : Prop} (h : a ∧ b ∧ c ∧ d) : a := h.1
theorem s1_ {a b c d : Prop} (h : a ∧ b ∧ c ∧ d) : b := h.2.1
theorem s2_ {a b c d : Prop} (h : a ∧ b ∧ c ∧ d) : c := h.2.2.1
theorem s3_ {a b c d : Prop} (h : a ∧ b ∧ c ∧ d) : d := h.2.2.2
theorem C_two (w : World) (a b : Int) : Kd.C (Kd.int .i64) (w.alloc (.cells #[.int .i64 a, .int .i64 b] 3)) (some ⟨w.heap.size, 0, none⟩) 2 [a, b] := by
  have q0 : (w.alloc (.cells #[.int .i64 a, .int .i64 b] 3)).cell? ⟨w.heap.size, 0, none⟩ = some (.int .i64 a) := blk_cell (Go.heap_alloc_new w _) 0
  have q1 : (w.alloc (.cells #[.int .i64 a, .int .i64 b] 3)).cell? ⟨w.heap.size, 1, none⟩ = some (.int .i64 b) := blk_cell (Go.heap_alloc_new w _) 1
  refine ⟨rfl, by omega, fun _ => ⟨_, rfl, fun j p hj => ?_⟩⟩
  match j, hj with
  | 0, hj => cases hj; exact ⟨[.int .i64 a], rfl, rfl, fun i u hi => by match i, hi with | 0, hi => cases hi; exact q0⟩
  | 1, hj => cases hj; exact ⟨[.int .i64 b], rfl, rfl, fun i u hi => by match i, hi with | 0, hi => cases hi; exact q1⟩

set_option maxRecDepth 100000 in
set_option maxHeartbeats 8000000 in
theorem edit_Match.calls (k : Nat) (A0 : Option Addr) (c0 : Nat) (l0 : List (S60)) (a1 : Int) (a2 : Int) (r1 : List Int) (r2 : Int) (w : World) (hr0 : Kd.C k60 w A0 l0.length l0) (hc0 : l0.length ≤ c0) (h : edit_Match.f k l0 a1 a2 = some (r1, r2)) :
    Calls Try.prog 26 #[.slice A0 l0.length c0, .int .i64 a1, .int .i64 a2] w fun e w' => ∃ v0_ : Value, e = .returned (.tuple #[v0_, .int .i64 r2]) ∧ Kd.R (Kd.int .i64) 3 w' w.heap.size (fun _ => True) v0_ r1 ∧ Below w.heap.size w w' := by
  have hu60 := Try.underlying60
  have hu36 := Try.underlying36
  have HR := Aside0.mk hr0
  have HC := Aside0.mk hc0
  have H := Option.some.inj h
  clear hr0 hc0 h
  unfold matchG at H
  obtain ⟨W2, hW2⟩ : ∃ W2, (w.alloc (.cells #[.int .i64 a1] 3)).alloc (.cells #[.int .i64 a2] 3) = W2 := ⟨_, rfl⟩
  have hs2 : W2.heap.size = w.heap.size + 2 := by rw [← hW2]; simp
  have bm2 : Boxed W2 w.heap.size 3 (.int .i64 a1) := by rw [← hW2]; exact (Boxed.new w 3 (.int .i64 a1)).alloc _
  have bn2 : Boxed W2 (w.heap.size + 1) 3 (.int .i64 a2) := by
    rw [← hW2]
    have := Boxed.new (w.alloc (.cells #[.int .i64 a1] 3)) 3 (.int .i64 a2)
    rw [World.size_alloc] at this
    exact this
  have hB2 : Below w.heap.size w W2 := by rw [← hW2]; exact below_alloc (below_alloc (Below.refl _ _) _) _
  have hlit := C_two W2 a1 a2
  have bm3 : ∀ nd, Boxed ((W2.alloc (.cells #[.int .i64 a1, .int .i64 a2] 3)).drewN nd) w.heap.size 3 (.int .i64 a1) := fun nd => bm2.alloc _
  have bn3 : ∀ nd, Boxed ((W2.alloc (.cells #[.int .i64 a1, .int .i64 a2] 3)).drewN nd) (w.heap.size + 1) 3 (.int .i64 a2) := fun nd => bn2.alloc _
  have hB3 : ∀ nd, Below w.heap.size w ((W2.alloc (.cells #[.int .i64 a1, .int .i64 a2] 3)).drewN nd) := fun nd => pw_below_drewN (below_alloc hB2 _) nd
  have hs3 : ∀ nd, ((W2.alloc (.cells #[.int .i64 a1, .int .i64 a2] 3)).drewN nd).heap.size = w.heap.size + 3 := fun nd => by simp [hs2]
  have hm0 := bm2.cell
  have hn0 := bn2.cell
  have HL := Aside0.mk hlit
  clear hlit
  have BM := Aside0.mk bm3
  have BN := Aside0.mk bn3
  have HB3 := Aside0.mk hB3
  have HS3 := Aside0.mk hs3
  clear bm3 bn3 hB3 hs3 bm2 bn2 hB2 hs2
  go_enter Try.func26, Try.ntmps26
  by_cases hlong : a1 > 2000 ∨ a2 > 2000
  · rw [if_pos hlong] at H
    obtain ⟨rfl, rfl⟩ := Prod.mk.inj H
    have HF := Aside0.mk (show edit_long.f 5 [a1, a2] = some true from by rw [long_f, decide_eq_true hlong])
    clear H hlong
    go_wp2_with (first | (go_at_call 34; refine (edit_long.calls 5 _ _ [a1, a2] true _ HL.out (Nat.le_refl _) HF.out).mono ?_; rintro e w1 ⟨rfl, nd, rfl⟩))
    refine bodyPost_ret (results_tmp2 rfl _ _ _) rfl ?_
    exact ⟨_, rfl, Kd.R_nil _ _ _ _ _, HB3.out nd⟩
  · rw [if_neg hlong] at H
    have HF := Aside0.mk (show edit_long.f 5 [a1, a2] = some false from by rw [long_f, decide_eq_false hlong])
    have h2000 : a1 ≤ 2000 ∧ a2 ≤ 2000 := by omega
    have HM := Aside0.mk h2000
    clear h2000 hlong
    have H1 := Aside0.mk H
    clear H
    go_wp2_with (first | (go_at_call 34; refine (edit_long.calls 5 _ _ [a1, a2] false _ HL.out (Nat.le_refl _) HF.out).mono ?_; rintro e w1 ⟨rfl, nd, rfl⟩; have hmc := (BM.out nd).cell; have hnc := (BN.out nd).cell; have bm := BM.out nd; have bn := BN.out nd; have hB := Aside0.mk (HB3.out nd); have hs := Aside0.mk (HS3.out nd); clear BM BN HB3 HS3 hm0 hn0 HL hW2; generalize (W2.alloc (.cells #[.int .i64 a1, .int .i64 a2] 3)).drewN nd = W3 at *))
    any_goals
      (have hneg : a1 < 0 ∨ a2 < 0 := by omega
       have H := H1.out
       rw [if_pos hneg] at H
       obtain ⟨rfl, rfl⟩ := Prod.mk.inj H
       refine bodyPost_ret (results_tmp2 rfl _ _ _) rfl ?_
       exact ⟨_, rfl, Kd.R_nil _ _ _ _ _, hB.out⟩)
    · have hneg : ¬ (a1 < 0 ∨ a2 < 0) := by omega
      have H := H1.out
      rw [if_neg hneg] at H
      clear H1
      have H1 := Aside0.mk H
      have HG := Aside0.mk (show 0 ≤ a1 ∧ 0 ≤ a2 by omega)
      clear H
      clear hneg hmc hnc
      go_loopg [30] l0.length (fun kq v30 wr => ∃ (i : Nat) (o : List Int) (y : Int), v30 = .int .i64 (i : Int) ∧ Aside0 (i ≤ l0.length ∧ kq = l0.length - i) ∧ Aside0 (VarsK w.heap.size W3.heap.size w.heap.size (w.heap.size + 1) (W3.heap.size + 1) wr o y a1 a2) ∧ Aside0 (Below w.heap.size w wr) ∧ Aside0 (W3.heap.size + 2 ≤ wr.heap.size) ∧ Aside0 (o.length ≤ a1.toNat) ∧ Aside0 (matchL a1 a2 i (l0.drop i) o y = matchL a1 a2 0 l0 [] 0))
      case atStart =>
        refine ⟨0, [], 0, rfl, ⟨Nat.zero_le _, rfl⟩, ⟨?_⟩, ⟨?_⟩, ⟨?_⟩, ⟨Nat.zero_le _⟩, ⟨rfl⟩⟩
        · have hs1 := hs.out
          have b0 := ((Boxed.new W3 26 (.slice none 0 0)).alloc (Obj.cells #[Value.int IntKind.i64 0] 3))
          have b1 := Boxed.new (W3.alloc (Obj.cells #[Value.slice none 0 0] 26)) 3 (.int .i64 0)
          rw [World.size_alloc] at b1
          exact ⟨⟨_, b0, World.ownsRow_nil _ _ _ _, by simp [Value.ownBlock], by simp [Value.ownBlock], by simp [Value.ownBlock]⟩, (bm.alloc _).alloc _, (bn.alloc _).alloc _, b1⟩
        · exact below_alloc (below_alloc hB.out _) _
        · simp
      case round =>
        obtain ⟨i, o, y, rfl, HI, HV, HB, HZ, HO, HA⟩ := hrel
        by_cases hlt : (i : Int) < (l0.length : Int)
        · have hi : i < l0.length := by omega
          have HI2 := Aside0.mk hi
          obtain ⟨ad, rfl, hx0, hx1, hx2, hx3⟩ := at_T60 HR.out (i : Int) (by omega) hlt
          replace hx0 := (HB.out.cell (World.block_lt_of_cell? w _ hx0)).trans hx0
          replace hx1 := (HB.out.cell (World.block_lt_of_cell? w _ hx1)).trans hx1
          replace hx2 := (HB.out.cell (World.block_lt_of_cell? w _ hx2)).trans hx2
          replace hx3 := (HB.out.cell (World.block_lt_of_cell? w _ hx3)).trans hx3
          have hrd : rd_T60 l0 (i : Int) = l0[i] := by simp [rd_T60, List.getD_eq_getElem?_getD, hi]
          rw [hrd] at hx0 hx1 hx2 hx3
          simp only [Int.toNat_natCast] at hx0 hx1 hx2 hx3
          generalize hc : l0[i] = c at hx0 hx1 hx2 hx3
          have HCE := Aside0.mk hc
          clear hc hrd
          obtain ⟨⟨v, hv, hrow, q1, q2, q3⟩, hm, hn, hy⟩ := HV.out
          have hvc := hv.cell
          obtain ⟨A2, c2, rfl⟩ := ownsRow_slice hrow
          go_wp2_with (first | ((with_reducible refine gate_dst (N := 12) rfl ?_); refine box_event ?hg (N := 12) ?hd (cs := #[.int .i64 0, .int .i64 0, .int .i64 0, .int .i64 0]) (t := 60) ?hr ?_; (case hd => rfl); (case hg => rfl); (case hr => first | (go_simp; done) | (go_simp; rfl)); intro gc hg0 w6 hbox0 hb0; have HGC := Aside0.mk hg0; have HBX := Aside0.mk hbox0; have HB6 := Aside0.mk hb0; clear hg0 hb0 hbox0; have hv6 := hv.kept_b HB6.out; have hvc6 := hv6.cell; have hne6 : W3.heap.size ≠ gc := (by have := HGC.out; have := HZ.out; omega); have hv7 := (((hv6.other_at hne6 0 (.int .i64 c.f0.f0)).other_at hne6 1 (.int .i64 c.f0.f1)).other_at hne6 2 (.int .i64 c.f1.f0)).other_at hne6 3 (.int .i64 c.f1.f1); have hvc7 := hv7.cell;  have hcz_0 : w6.cell? ⟨gc, 0, none⟩ = some (.int .i64 0) := (blk_cell HBX.out 0).trans rfl; have hcz_1 : w6.cell? ⟨gc, 1, none⟩ = some (.int .i64 0) := (blk_cell HBX.out 1).trans rfl; have hcz_2 : w6.cell? ⟨gc, 2, none⟩ = some (.int .i64 0) := (blk_cell HBX.out 2).trans rfl; have hcz_3 : w6.cell? ⟨gc, 3, none⟩ = some (.int .i64 0) := (blk_cell HBX.out 3).trans rfl; have hfz_0 := blk_frozen HBX.out 0; have hfz_1 := blk_frozen HBX.out 1; have hfz_2 := blk_frozen HBX.out 2; have hfz_3 := blk_frozen HBX.out 3))
          have hHX := blk_put (cs := #[.int .i64 c.f0.f0, .int .i64 c.f0.f1, .int .i64 c.f1.f0, .int .i64 0]) (blk_put (cs := #[.int .i64 c.f0.f0, .int .i64 c.f0.f1, .int .i64 0, .int .i64 0]) (blk_put (cs := #[.int .i64 c.f0.f0, .int .i64 0, .int .i64 0, .int .i64 0]) (blk_put HBX.out 0 (.int .i64 c.f0.f0) rfl) 1 (.int .i64 c.f0.f1) rfl) 2 (.int .i64 c.f1.f0) rfl) 3 (.int .i64 c.f1.f1) rfl
          have hle6 : wr.heap.size ≤ gc := Nat.le_of_eq HGC.out.symm
          have hHB := below_set (j := 3) (v := .int .i64 c.f1.f1) (below_set (j := 2) (v := .int .i64 c.f1.f0) (below_set (j := 1) (v := .int .i64 c.f0.f1) (below_set (j := 0) (v := .int .i64 c.f0.f0) HB6.out hle6) hle6) hle6) hle6
          obtain ⟨W7, hW7⟩ : ∃ W7, (((w6.setCell ⟨gc, 0, none⟩ (.int .i64 c.f0.f0)).setCell ⟨gc, 1, none⟩ (.int .i64 c.f0.f1)).setCell ⟨gc, 2, none⟩ (.int .i64 c.f1.f0)).setCell ⟨gc, 3, none⟩ (.int .i64 c.f1.f1) = W7 := ⟨_, rfl⟩
          rw [hW7] at hHX hHB ⊢
          clear hW7 hv6 hvc6 hv7 hvc7 hcz_0 hcz_1 hcz_2 hcz_3 hfz_0 hfz_1 hfz_2 hfz_3 HBX HB6 hx0 hx1 hx2 hx3 hle6 hv hrow q1 q2 q3 hm hn hy hvc
          obtain ⟨W8, hW8⟩ : ∃ W8, W8 = W7.drew := ⟨_, rfl⟩
          have HS8 := Aside0.mk (show W8.cell? ⟨gc, 0, none⟩ = some (.int .i64 c.f0.f0) ∧ W8.cell? ⟨gc, 1, none⟩ = some (.int .i64 c.f0.f1) ∧ W8.cell? ⟨gc, 2, none⟩ = some (.int .i64 c.f1.f0) ∧ W8.cell? ⟨gc, 3, none⟩ = some (.int .i64 c.f1.f1) from by
            rw [hW8]
            exact ⟨(blk_cell hHX 0).trans rfl, (blk_cell hHX 1).trans rfl, (blk_cell hHX 2).trans rfl, (blk_cell hHX 3).trans rfl⟩)
          have HG8 := Aside0.mk (show gc < W8.heap.size from by rw [hW8]; exact (Array.getElem?_eq_some_iff.1 hHX).1)
          have HB8 := Aside0.mk (show Below wr.heap.size wr W8 from by rw [hW8]; exact below_drew hHB)
          clear hHX hHB
          --REGION12
          refine start_ (n := 8) (S := fun w' => w'.cell? ⟨gc, 0, none⟩ = some (.int .i64 c.f0.f0) ∧ w'.cell? ⟨gc, 1, none⟩ = some (.int .i64 c.f0.f1) ∧ w'.cell? ⟨gc, 2, none⟩ = some (.int .i64 c.f1.f0) ∧ w'.cell? ⟨gc, 3, none⟩ = some (.int .i64 c.f1.f1)) (ds := [7]) #[false, false, false, false, false, false, false, false] (by kernel_rfl) rfl rfl ⟨(by rw [← hW8]; exact HS8.out.1), (by rw [← hW8]; exact HS8.out.2.1), (by rw [← hW8]; exact HS8.out.2.2.1), (by rw [← hW8]; exact HS8.out.2.2.2)⟩ (fun hHeld => ?_)
          rw [← hW8] at hHeld ⊢
          clear hW8
          refine pure_ (i := 0) (N := some 37) (v := ?_) (a' := ?_) #[true, false, false, false, false, false, false, false] rfl rfl (by kernel_rfl) (fun _ _ _ h => h) (Or.inl ⟨by rfl, ?_⟩) ?_ ?_
          rotate_left
          · intro w'
            go_simp
            with_reducible rfl
          rotate_left
          · simp only [Act.put, List.setIfInBounds_toArray, List.set_cons_zero, List.set_cons_succ, i64_w, i32_w]
            rfl
          refine pure_ (i := 2) (N := some 39) (v := ?_) (a' := ?_) #[true, false, true, false, false, false, false, false] rfl rfl (by kernel_rfl) (fun _ _ _ h => h) (Or.inl ⟨by rfl, ?_⟩) ?_ ?_
          rotate_left
          · intro w'
            go_simp
            with_reducible rfl
          rotate_left
          · simp only [Act.put, List.setIfInBounds_toArray, List.set_cons_zero, List.set_cons_succ, i64_w, i32_w]
            rfl
          refine take_ (i := 1) (N := some 38) (v := ?_) (a' := ?_) #[true, true, true, false, false, false, false, false] rfl rfl (by kernel_rfl) (fun _ _ _ h => h) (Or.inl ⟨by rfl, ?_⟩) hHeld ?_ ?_
          rotate_left
          · rintro w' ⟨s0, s1, s2, s3⟩
            go_simp
            with_reducible rfl
          rotate_left
          · simp only [Act.put, List.setIfInBounds_toArray, List.set_cons_zero, List.set_cons_succ, i64_w, i32_w]
            rfl
          refine take_ (i := 3) (N := some 40) (v := ?_) (a' := ?_) #[true, true, true, true, false, false, false, false] rfl rfl (by kernel_rfl) (fun _ _ _ h => h) (Or.inl ⟨by rfl, ?_⟩) hHeld ?_ ?_
          rotate_left
          · rintro w' ⟨s0, s1, s2, s3⟩
            go_simp
            with_reducible rfl
          rotate_left
          · simp only [Act.put, List.setIfInBounds_toArray, List.set_cons_zero, List.set_cons_succ, i64_w, i32_w]
            rfl
          refine join_ (σ := Nat × Nat) 2 #[true, true, true, true, true, true, false, false] (fun s => [(14, .pointer (some ⟨s.1, 0, none⟩)), (15, .pointer (some ⟨s.2, 0, none⟩))]) (fun s w' => (w'.cell? ⟨gc, 0, none⟩ = some (.int .i64 c.f0.f0) ∧ w'.cell? ⟨gc, 1, none⟩ = some (.int .i64 c.f0.f1) ∧ w'.cell? ⟨gc, 2, none⟩ = some (.int .i64 c.f1.f0) ∧ w'.cell? ⟨gc, 3, none⟩ = some (.int .i64 c.f1.f1)) ∧ w'.heap[s.1]? = some (Obj.cells #[.int .i64 0, .int .i64 0] 36 (0, 0)) ∧ w'.heap[s.2]? = some (Obj.cells #[.int .i64 0, .int .i64 0] 36 (0, 0)) ∧ s.1 ≠ s.2 ∧ W8.heap.size ≤ s.1 ∧ W8.heap.size ≤ s.2 ∧ Below W8.heap.size W8 w') ?_ ?_
          rotate_left
          · intro hCont
            refine two_ (i := 4) (j := 5) (Ni := some 14) (Nj := some 15) #[true, true, true, true, true, false, false, false] #[true, true, true, true, false, true, false, false] rfl rfl rfl rfl (by kernel_rfl) (by decide) (by decide) (fun K hK => ?_) (fun K hK => ?_)
            · skip
              refine value_ (w1 := ?_) (v := ?_) (by rfl) rfl ?_ ?_
              rotate_left 2
              · go_simp
                constructor
                · rfl
                · rfl
              refine hK.out _ _ ⟨(cell_blk (Below.heap_alloc W8 _ gc HG8.out) (s0_ HS8.out)), (cell_blk (Below.heap_alloc W8 _ gc HG8.out) (s1_ HS8.out)), (cell_blk (Below.heap_alloc W8 _ gc HG8.out) (s2_ HS8.out)), (cell_blk (Below.heap_alloc W8 _ gc HG8.out) (s3_ HS8.out))⟩ (fun hHeld => ?_)
              clear hK K
              refine norm_ (a' := ?_) ?_ ?_
              rotate_left
              · show Act.put _ (some 14) _ = _
                simp only [Act.put, List.setIfInBounds_toArray, List.set_cons_zero, List.set_cons_succ, i64_w, i32_w]
                rfl
              refine one_ (i := 5) (N := some 15) #[true, true, true, true, true, true, false, false] rfl rfl (by kernel_rfl) (by decide) (fun K hK => ?_)
              refine value_ (w1 := ?_) (v := ?_) (by rfl) rfl ?_ ?_
              rotate_left 2
              · go_simp
                constructor
                · rfl
                · rfl
              refine hK.out _ _ ⟨(cell_blk ((Below.heap_alloc _ _ gc (by simp; have := HG8.out; omega)).trans (Below.heap_alloc W8 _ gc HG8.out)) (s0_ HS8.out)), (cell_blk ((Below.heap_alloc _ _ gc (by simp; have := HG8.out; omega)).trans (Below.heap_alloc W8 _ gc HG8.out)) (s1_ HS8.out)), (cell_blk ((Below.heap_alloc _ _ gc (by simp; have := HG8.out; omega)).trans (Below.heap_alloc W8 _ gc HG8.out)) (s2_ HS8.out)), (cell_blk ((Below.heap_alloc _ _ gc (by simp; have := HG8.out; omega)).trans (Below.heap_alloc W8 _ gc HG8.out)) (s3_ HS8.out))⟩ (fun hHeld => ?_)
              clear hK K
              refine norm_ (a' := ?_) ?_ ?_
              rotate_left
              · show Act.put _ (some 15) _ = _
                simp only [Act.put, List.setIfInBounds_toArray, List.set_cons_zero, List.set_cons_succ, i64_w, i32_w]
                rfl
              exact norm_ (by simp only [putAll, Act.put, List.setIfInBounds_toArray, List.set_cons_zero, List.set_cons_succ]) (hCont (W8.heap.size, W8.heap.size + 1) _ ⟨⟨(cell_blk ((Below.heap_alloc _ _ gc (by simp; have := HG8.out; omega)).trans (Below.heap_alloc W8 _ gc HG8.out)) (s0_ HS8.out)), (cell_blk ((Below.heap_alloc _ _ gc (by simp; have := HG8.out; omega)).trans (Below.heap_alloc W8 _ gc HG8.out)) (s1_ HS8.out)), (cell_blk ((Below.heap_alloc _ _ gc (by simp; have := HG8.out; omega)).trans (Below.heap_alloc W8 _ gc HG8.out)) (s2_ HS8.out)), (cell_blk ((Below.heap_alloc _ _ gc (by simp; have := HG8.out; omega)).trans (Below.heap_alloc W8 _ gc HG8.out)) (s3_ HS8.out))⟩, ((Below.heap_alloc _ _ _ (by simp)).trans (World.alloc_heap_new W8 _)), (alloc_new2 W8 _ _), by simp, by simp, by simp, below_alloc (below_alloc (Below.refl _ _) _) _⟩)
            · skip
              refine value_ (w1 := ?_) (v := ?_) (by rfl) rfl ?_ ?_
              rotate_left 2
              · go_simp
                constructor
                · rfl
                · rfl
              refine hK.out _ _ ⟨(cell_blk (Below.heap_alloc W8 _ gc HG8.out) (s0_ HS8.out)), (cell_blk (Below.heap_alloc W8 _ gc HG8.out) (s1_ HS8.out)), (cell_blk (Below.heap_alloc W8 _ gc HG8.out) (s2_ HS8.out)), (cell_blk (Below.heap_alloc W8 _ gc HG8.out) (s3_ HS8.out))⟩ (fun hHeld => ?_)
              clear hK K
              refine norm_ (a' := ?_) ?_ ?_
              rotate_left
              · show Act.put _ (some 15) _ = _
                simp only [Act.put, List.setIfInBounds_toArray, List.set_cons_zero, List.set_cons_succ, i64_w, i32_w]
                rfl
              refine one_ (i := 4) (N := some 14) #[true, true, true, true, true, true, false, false] rfl rfl (by kernel_rfl) (by decide) (fun K hK => ?_)
              refine value_ (w1 := ?_) (v := ?_) (by rfl) rfl ?_ ?_
              rotate_left 2
              · go_simp
                constructor
                · rfl
                · rfl
              refine hK.out _ _ ⟨(cell_blk ((Below.heap_alloc _ _ gc (by simp; have := HG8.out; omega)).trans (Below.heap_alloc W8 _ gc HG8.out)) (s0_ HS8.out)), (cell_blk ((Below.heap_alloc _ _ gc (by simp; have := HG8.out; omega)).trans (Below.heap_alloc W8 _ gc HG8.out)) (s1_ HS8.out)), (cell_blk ((Below.heap_alloc _ _ gc (by simp; have := HG8.out; omega)).trans (Below.heap_alloc W8 _ gc HG8.out)) (s2_ HS8.out)), (cell_blk ((Below.heap_alloc _ _ gc (by simp; have := HG8.out; omega)).trans (Below.heap_alloc W8 _ gc HG8.out)) (s3_ HS8.out))⟩ (fun hHeld => ?_)
              clear hK K
              refine norm_ (a' := ?_) ?_ ?_
              rotate_left
              · show Act.put _ (some 14) _ = _
                simp only [Act.put, List.setIfInBounds_toArray, List.set_cons_zero, List.set_cons_succ, i64_w, i32_w]
                rfl
              exact norm_ (by simp only [putAll, Act.put, List.setIfInBounds_toArray, List.set_cons_zero, List.set_cons_succ]) (hCont (W8.heap.size + 1, W8.heap.size) _ ⟨⟨(cell_blk ((Below.heap_alloc _ _ gc (by simp; have := HG8.out; omega)).trans (Below.heap_alloc W8 _ gc HG8.out)) (s0_ HS8.out)), (cell_blk ((Below.heap_alloc _ _ gc (by simp; have := HG8.out; omega)).trans (Below.heap_alloc W8 _ gc HG8.out)) (s1_ HS8.out)), (cell_blk ((Below.heap_alloc _ _ gc (by simp; have := HG8.out; omega)).trans (Below.heap_alloc W8 _ gc HG8.out)) (s2_ HS8.out)), (cell_blk ((Below.heap_alloc _ _ gc (by simp; have := HG8.out; omega)).trans (Below.heap_alloc W8 _ gc HG8.out)) (s3_ HS8.out))⟩, (alloc_new2 W8 _ _), ((Below.heap_alloc _ _ _ (by simp)).trans (World.alloc_heap_new W8 _)), by simp, by simp, by simp, below_alloc (below_alloc (Below.refl _ _) _) _⟩)
          rintro ⟨g14, g15⟩ w9 ⟨hHeld, hb14, hb15, hn1, hn2, hn3, hbl⟩
          have hd0 := (blk_cell hb14 0).trans rfl
          have hd1 := (blk_cell hb14 1).trans rfl
          have he0 := (blk_cell hb15 0).trans rfl
          have he1 := (blk_cell hb15 1).trans rfl
          have hq0 := blk_frozen hb14 0
          have hq1 := blk_frozen hb14 1
          have hr0 := blk_frozen hb15 0
          have hr1 := blk_frozen hb15 1
          refine norm_ (a' := ?_) ?_ ?_
          rotate_left
          · simp only [putAll, Act.put, List.setIfInBounds_toArray, List.set_cons_zero, List.set_cons_succ]
            rfl
          refine one_ (i := 6) (N := none) #[true, true, true, true, true, true, true, false] rfl rfl (by kernel_rfl) (by decide) (fun K hK => ?_)
          refine skip_ (w1 := ?_) (by rfl) rfl ?_ ?_
          rotate_left
          · go_simp
            rfl
          refine hK.out _ _ ⟨(cell_blk (two_far _ _ 0 (by have := HG8.out; omega)) hHeld.1), (cell_blk (two_far _ _ 0 (by have := HG8.out; omega)) hHeld.2.1), (cell_blk (two_far _ _ 0 (by have := HG8.out; omega)) hHeld.2.2.1), (cell_blk (two_far _ _ 0 (by have := HG8.out; omega)) hHeld.2.2.2)⟩ (fun hHeld => ?_)
          clear hK K
          refine last_ (i := 7) (N := none) #[true, true, true, true, true, true, true, true] rfl rfl (by kernel_rfl) (by decide) (fun K hK => ?_)
          refine skip_ (w1 := ?_) (by rfl) rfl ?_ ?_
          rotate_left
          · go_simp
            rfl
          refine hK.out _ _ ?_
          clear hK K
          refine done_ (by kernel_rfl) ?_

          --END12
          have hH14 := heap_two w9 hn1 hb14 (.int .i64 c.f0.f0) (.int .i64 c.f0.f1) (.int .i64 c.f1.f0) (.int .i64 c.f1.f1)
          have hH15 := heap_two2 w9 hb15 g14 (.int .i64 c.f0.f0) (.int .i64 c.f0.f1) (.int .i64 c.f1.f0) (.int .i64 c.f1.f1) (fun e => hn1 e.symm)
          have hsz8 := HB8.out.size
          have hBX : Below wr.heap.size wr ((((w9.setCell ⟨g14, 0, none⟩ (.int .i64 c.f0.f0)).setCell ⟨g14, 1, none⟩ (.int .i64 c.f0.f1)).setCell ⟨g15, 0, none⟩ (.int .i64 c.f1.f0)).setCell ⟨g15, 1, none⟩ (.int .i64 c.f1.f1)) :=
            below_set (below_set (below_set (below_set (HB8.out.trans (hbl.mono hsz8)) (Nat.le_trans hsz8 hn2)) (Nat.le_trans hsz8 hn2)) (Nat.le_trans hsz8 hn3)) (Nat.le_trans hsz8 hn3)
          obtain ⟨WX, hWX⟩ : ∃ WX, (((w9.setCell ⟨g14, 0, none⟩ (.int .i64 c.f0.f0)).setCell ⟨g14, 1, none⟩ (.int .i64 c.f0.f1)).setCell ⟨g15, 0, none⟩ (.int .i64 c.f1.f0)).setCell ⟨g15, 1, none⟩ (.int .i64 c.f1.f1) = WX := ⟨_, rfl⟩
          rw [hWX] at hH14 hH15 hBX ⊢
          have HX14 := Aside0.mk hH14
          have HX15 := Aside0.mk hH15
          have HBX := Aside0.mk hBX
          have HVX := Aside0.mk (vk_below HV.out hBX)
          clear hWX hH14 hH15 hBX hd0 hd1 he0 he1 hq0 hq1 hr0 hr1 hn1 hn2 hn3 hbl hb14 hb15 hsz8 HS8 HG8 HB8 HGC hne6
          clear hHeld
          have d0 := (blk_cell HX14.out 0).trans rfl
          have d1 := (blk_cell HX14.out 1).trans rfl
          have e0 := (blk_cell HX15.out 0).trans rfl
          have e1 := (blk_cell HX15.out 1).trans rfl
          have hdr : l0.drop i = c :: l0.drop (i + 1) := by rw [List.drop_eq_getElem_cons hi, HCE.out]
          have hRET : badG a1 a2 i o.length (okK a1 a2 o y c.f0.f0 c.f1.f0) (keepG a1 a2 o y c.f0.f0 c.f1.f0) c = true → r1 = [] ∧ r2 = 1 := fun hb => by
            have h2 := HA.out
            rw [hdr] at h2
            simp only [matchL] at h2
            rw [if_pos hb] at h2
            have h3 := H1.out
            rw [← h2] at h3
            obtain ⟨h4, h5⟩ := Prod.mk.inj h3
            exact ⟨h4.symm, h5.symm⟩
          have hGOOD : badG a1 a2 i o.length (okK a1 a2 o y c.f0.f0 c.f1.f0) (keepG a1 a2 o y c.f0.f0 c.f1.f0) c = false → matchL a1 a2 (i + 1) (l0.drop (i + 1)) ((keepG a1 a2 o y c.f0.f0 c.f1.f0).1 ++ List.replicate (c.f0.f1.toNat - (keepG a1 a2 o y c.f0.f0 c.f1.f0).1.length) (-1)) c.f1.f1 = matchL a1 a2 0 l0 [] 0 := fun hb => by
            have h2 := HA.out
            rw [hdr] at h2
            simp only [matchL] at h2
            rw [hb, if_neg (by decide)] at h2
            exact h2
          have hKP := @keep_in Fence.wide 5 trivial rfl w.heap.size W3.heap.size w.heap.size (w.heap.size + 1) (W3.heap.size + 1) (by have := hs.out; omega) (by have := hs.out; omega) (by have := hs.out; omega) (by have := hs.out; omega) (by omega) (by have := hs.out; omega) (by have := hs.out; omega) o y a1 a2 c.f0.f0 c.f1.f0 HM.out.1 WX (by have := HBX.out.size; have := HB.out.size; omega) HVX.out
          generalize okK a1 a2 o y c.f0.f0 c.f1.f0 = b at hRET hGOOD hKP
          have hlenS : (keepG a1 a2 o y c.f0.f0 c.f1.f0).1.length ≤ a1.toNat := keep_len HO.out
          generalize keepG a1 a2 o y c.f0.f0 c.f1.f0 = sk at hRET hGOOD hKP hlenS
          have RET := Aside0.mk hRET
          have GOOD := Aside0.mk hGOOD
          have KP := Aside0.mk hKP
          have LS := Aside0.mk hlenS
          clear hRET hGOOD hKP hlenS hdr
          go_wp2_with (first | (go_at_call 37; refine ((callsIn_wide (n := 5)).1 KP.out).mono ?_
                                rintro e w11 ⟨rfl, hv11, hb11, hk11⟩
                                have HY14 := Aside0.mk (hk11 _ _ _ HX14.out (by decide) (by decide))
                                have HY15 := Aside0.mk (hk11 _ _ _ HX15.out (by decide) (by decide))
                                clear d0 d1 e0 e1
                                have d0 := (blk_cell HY14.out 0).trans rfl
                                have d1 := (blk_cell HY14.out 1).trans rfl
                                have e0 := (blk_cell HY15.out 0).trans rfl
                                have e1 := (blk_cell HY15.out 1).trans rfl
                                have HV11 := Aside0.mk hv11
                                have HB11 := Aside0.mk hb11
                                clear hb11 hk11
                                obtain ⟨⟨v11, p0, p1, _⟩, p2, p3, p4⟩ := hv11
                                have hvc11 := p0.cell
                                have hmc11 := p2.cell
                                have hnc11 := p3.cell
                                obtain ⟨A11, c11, rfl⟩ := ownsRow_slice p1
                                clear p0 p1 p2 p3 p4))
          all_goals first
            | (refine bodyPost_ret (results_tmp2 rfl _ _ _) rfl ?_
               obtain ⟨rfl, rfl⟩ := RET.out (by
                 unfold badG
                 simp only [Bool.or_eq_true, Bool.and_eq_true, Bool.not_eq_true', decide_eq_true_eq, Bool.or_eq_false_iff, decide_eq_false_iff_not]
                 first
                 | (left; assumption)
                 | (left; exact Bool.eq_false_iff.mpr (by assumption))
                 | omega
                 | (rename_i hq; simp only [beq_iff_eq, Bool.not_eq_true', decide_eq_false_iff_not] at hq; omega))
               exact ⟨_, rfl, Kd.R_nil _ _ _ _ _, HB.out.trans (HBX.out.mono HB.out.size |>.trans (HB11.out))⟩)
            | (have hgd := GOOD.out (by
                 unfold badG
                 rw [show b = true from by assumption]
                 simp only [Bool.not_true, Bool.false_or, Bool.or_eq_false_iff, Bool.and_eq_false_iff, Bool.not_eq_false', decide_eq_false_iff_not, Bool.or_eq_true, decide_eq_true_eq]
                 omega)
               have GD := Aside0.mk hgd
               clear hgd
               have hL11 := Aside0.mk (show W3.heap.size + 2 ≤ w11.heap.size from by have := HZ.out; have := HBX.out.size; have := HB11.out.size; omega)
               have hB12 := Aside0.mk (HB.out.trans ((HBX.out.mono HB.out.size).trans HB11.out))
               try (rename (_ ∧ c.f1.f1 ≤ a2) => hqq; have hq2 := hqq.2; clear hqq)
               go_loopg [100] c.f0.f1.toNat (fun kq v100 wl => ∃ oo : List Int, Aside0 (c.f0.f1.toNat - oo.length ≤ kq) ∧ Aside0 (VarsK w.heap.size W3.heap.size w.heap.size (w.heap.size + 1) (W3.heap.size + 1) wl oo sk.2 a1 a2) ∧ Aside0 (Below w.heap.size w wl) ∧ Aside0 (W3.heap.size + 2 ≤ wl.heap.size) ∧ Aside0 (wl.heap[g14]? = some (.cells #[.int .i64 c.f0.f0, .int .i64 c.f0.f1] 36 (0, 0))) ∧ Aside0 (wl.heap[g15]? = some (.cells #[.int .i64 c.f1.f0, .int .i64 c.f1.f1] 36 (0, 0))) ∧ Aside0 (oo.length ≤ a1.toNat) ∧ Aside0 (oo ++ List.replicate (c.f0.f1.toNat - oo.length) (-1) = sk.1 ++ List.replicate (c.f0.f1.toNat - sk.1.length) (-1)))
               case atStart => exact ⟨sk.1, ⟨by omega⟩, HV11, hB12, hL11, HY14, HY15, LS, ⟨rfl⟩⟩
               case round =>
                 obtain ⟨oo, LK, LV, LB, LZ, L14, L15, LO, LR⟩ := hrel
                 obtain ⟨⟨vv, z0, z1, z2, z3, z4⟩, z5, z6, z7⟩ := LV.out
                 clear d0 d1 e0 e1 hvc11 hmc11 hnc11
                 have hvc := z0.cell
                 have hvf := z0.frozen
                 have d1 := (blk_cell L14.out 1).trans rfl
                 have e1 := (blk_cell L15.out 1).trans rfl
                 have hyc := z7.cell
                 have hyf := z7.frozen
                 obtain ⟨A9, c9, rfl⟩ := ownsRow_slice z1
                 by_cases hq : (oo.length : Int) < c.f0.f1
                 all_goals have HQ := Aside0.mk hq
                 · obtain ⟨i0, hi0, hz0, hz1, hz2⟩ := info_parts infoI
                   have hla := HM.out.1
                   have hlo := LO.out
                   go_wp2_with (first
                     | (at_builtin; go_loud (refine wpList_append_own_at _ rfl _ _ 26 rfl w.heap.size 3 i0 (.int .i64 0) 1 8 Try.underlying26 hi0 hz0 hz1 hz2 rfl (by decide) _ _ _ rfl (z1.alloc _) ⟨wr.heap.size, 0, none⟩ 1 1 [.int .i64 (-1)] rfl rfl (cell_one_new _ _ _) (by simp [Value.oneCell']) (by unfold maxLen; omega) (by omega) (by have := LB.out.size; simp; omega) ?_)
                        intro v' w1 hown' hgrow _ hat
                        obtain ⟨g', cap', rfl⟩ := ownsRow_succ hown'
                        obtain ⟨y1, y2, y3, y4⟩ := vk_app (by have := hs.out; omega) (by have := LB.out.size; omega) z0 z1 z2 z3 z4 z5 z6 z7 (by have := hs.out; omega) (by have := hs.out; omega) (by omega) hown' hgrow hat
                        have hc1 := y1.cell
                        have hf1 := y1.frozen))
                   go_roundg (c.f0.f1.toNat - (oo.length + 1))
                   case measure => have := LK.out; have := HQ.out; omega
                   case rel =>
                     have hq9 := HQ.out
                     refine ⟨oo ++ [-1], ⟨by simp⟩, ⟨y2⟩, ⟨LB.out.trans y3⟩, ⟨Nat.le_trans LZ.out y3.size⟩, ⟨y4 _ _ _ L14.out (by decide) (by decide)⟩, ⟨y4 _ _ _ L15.out (by decide) (by decide)⟩, ⟨by simp; omega⟩, ⟨?_⟩⟩
                     rw [← LR.out, show c.f0.f1.toNat - oo.length = (c.f0.f1.toNat - (oo ++ [-1]).length) + 1 from by simp; omega, List.replicate_succ]
                     simp
                 · go_wp2
                   obtain ⟨y1, y2, y3⟩ := vk_y LV.out (by have := hs.out; omega) (by have := hs.out; omega) (by have := hs.out; omega) (by omega) c.f1.f1
                   go_roundg (l0.length - (i + 1))
                   case measure => have := HI.out; omega
                   case rel =>
                     have hbig := HR.out.2.1
                     have hi9 := HI2.out
                     refine ⟨i + 1, oo, c.f1.f1, (by first | rfl | rw [wrap_nat (i := i) (by omega)]), ⟨by have := HI2.out; omega, rfl⟩, ⟨y1⟩, ⟨LB.out.trans y2⟩, ⟨Nat.le_trans LZ.out y2.size⟩, LO, ⟨?_⟩⟩
                     have e := LR.out
                     have hq9 := HQ.out
                     rw [show c.f0.f1.toNat - oo.length = 0 from by omega, List.replicate_zero, List.append_nil] at e
                     rw [e]
                     exact GD.out)
        · have hend : l0.drop i = [] := List.drop_of_length_le (by omega)
          have hA := HA.out
          rw [hend] at hA
          simp only [matchL] at hA
          have H3 := H1.out
          rw [← hA] at H3
          have hKP := @keep_in Fence.wide 5 trivial rfl w.heap.size W3.heap.size w.heap.size (w.heap.size + 1) (W3.heap.size + 1) (by have := hs.out; omega) (by have := hs.out; omega) (by have := hs.out; omega) (by have := hs.out; omega) (by omega) (by have := hs.out; omega) (by have := hs.out; omega) o y a1 a2 a1 a2 HM.out.1 wr HB.out.size HV.out
          have KP := Aside0.mk hKP
          have HH := Aside0.mk H3
          clear hKP H3 hA hend
          obtain ⟨_, p2, p3, _⟩ := HV.out
          have hmc := p2.cell
          have hnc := p3.cell
          clear p2 p3
          have hok : okK a1 a2 o y a1 a2 = true ∨ okK a1 a2 o y a1 a2 = false := by cases okK a1 a2 o y a1 a2 <;> simp
          rcases hok with hok | hok
          · have HO2 := Aside0.mk hok
            rw [hok] at KP
            clear hok
            go_wp2_with (first | (go_at_call 37; refine ((callsIn_wide (n := 5)).1 KP.out).mono ?_; rintro e w11 ⟨rfl, hv11, hb11, hk11⟩; obtain ⟨⟨v11, p0, p1, _⟩, _⟩ := hv11; have hvc11 := p0.cell))
            have h4 := HH.out
            rw [if_pos HO2.out] at h4
            obtain ⟨rfl, rfl⟩ := Prod.mk.inj h4
            refine bodyPost_ret (results_tmp2 rfl _ _ _) rfl ?_
            exact ⟨v11, rfl, ⟨fun _ _ => trivial, _, p1, reps_I _ _ _ _⟩, HB.out.trans hb11⟩
          · have HO2 := Aside0.mk hok
            rw [hok] at KP
            clear hok
            go_wp2_with (first | (go_at_call 37; refine ((callsIn_wide (n := 5)).1 KP.out).mono ?_; rintro e w11 ⟨rfl, hv11, hb11, hk11⟩; clear hv11 hk11))
            have h4 := HH.out
            rw [HO2.out, if_neg (by decide)] at h4
            obtain ⟨rfl, rfl⟩ := Prod.mk.inj h4
            refine bodyPost_ret (results_tmp2 rfl _ _ _) rfl ?_
            exact ⟨_, rfl, Kd.R_nil _ _ _ _ _, HB.out.trans hb11⟩
end Go.Proofs.Ytnebadlakmlkkaa.M
