/- The law FlagsResult's call: what it answers. -/
import Derived.Test.YtbhfenpccccloaaF46
import Derived.Test.YtbhfenpccccloaaF47
import Derived.Test.YtbhfenpccccloaaF38
import Derived.Test.YtbhfenpccccloaaF39
import Derived.Test.YtbhfenpccccloaaF23
namespace Go.Proofs.Ytbhfenpccccloaa.M
open Go.RowKit Go.Proofs Go.Proofs.Ytbhfenpccccloaa.Hand Go.Proofs.YtbhfenpccccloaaW.PrintWords Go.Proofs.YtbhfenpccccloaaW.PrintLast Go.Proofs.YtbhfenpccccloaaW.PrintMore
attribute [local go_sem] Oper.semAt_some
set_option linter.unusedVariables false
set_option linter.unusedSimpArgs false

/-- The flag that the law takes. -/
def flagG (a : Int) : Int := if a % 7 = 0 then 101 else if a % 7 = 1 then 120 else if a % 7 = 2 then 51 else if a % 7 = 3 then 69 else if a % 7 = 4 then 88 else if a % 7 = 5 then 65 else 63
abbrev flagsB : ByteArray := ⟨#[101, 120, 51, 69, 88, 65, 63]⟩

set_option maxHeartbeats 8000000 in
set_option maxRecDepth 100000 in
theorem result_not (k : Nat) (a0 : Int) (A0 : Option Addr) (c0 : Nat) (l0 : List ByteArray) (A1 : Option Addr) (c1 : Nat) (l1 : List ByteArray) (A2 : Option Addr) (c2 : Nat) (l2 : List ByteArray) (w : World) (h0 : 0 ≤ a0) (h255 : a0 ≤ 255)
    (hr0 : Kd.C Kd.string w A0 l0.length l0) (hc0 : l0.length ≤ c0) (hr1 : Kd.C Kd.string w A1 l1.length l1) (hc1 : l1.length ≤ c1) (hr2 : Kd.C Kd.string w A2 l2.length l2) (hc2 : l2.length ≤ c2)
    (hA : sennitlaw14_awake.f k = some true) (hF : sennitlaw14_few.f k l0 l1 l2 = some false) :
    Calls Try.prog 15 #[.int .u8 a0, .agg #[.slice A0 l0.length c0, .slice A1 l1.length c1, .slice A2 l2.length c2]] w fun e w' => e = .returned (.bool true) ∧ Below w.heap.size w w' := by
  have R0 := Aside0.mk hr0
  have R1 := Aside0.mk hr1
  have R2 := Aside0.mk hr2
  have HA := Aside0.mk hA
  have HF := Aside0.mk hF
  clear hr0 hr1 hr2 hA hF
  have hmod : a0.tmod 7 = a0 % 7 := Int.tmod_eq_emod_of_nonneg h0
  have hcase : a0 % 7 = 0 ∨ a0 % 7 = 1 ∨ a0 % 7 = 2 ∨ a0 % 7 = 3 ∨ a0 % 7 = 4 ∨ a0 % 7 = 5 ∨ a0 % 7 = 6 := by omega
  have hx0 : a0 % 7 = 0 → ((flagsB[0]'(by decide)).toNat : Int) = flagG a0 := fun e => by unfold flagG; rw [e]; rfl
  have hx1 : a0 % 7 = 1 → ((flagsB[1]'(by decide)).toNat : Int) = flagG a0 := fun e => by unfold flagG; rw [e]; rfl
  have hx2 : a0 % 7 = 2 → ((flagsB[2]'(by decide)).toNat : Int) = flagG a0 := fun e => by unfold flagG; rw [e]; rfl
  have hx3 : a0 % 7 = 3 → ((flagsB[3]'(by decide)).toNat : Int) = flagG a0 := fun e => by unfold flagG; rw [e]; rfl
  have hx4 : a0 % 7 = 4 → ((flagsB[4]'(by decide)).toNat : Int) = flagG a0 := fun e => by unfold flagG; rw [e]; rfl
  have hx5 : a0 % 7 = 5 → ((flagsB[5]'(by decide)).toNat : Int) = flagG a0 := fun e => by unfold flagG; rw [e]; rfl
  have hx6 : a0 % 7 = 6 → ((flagsB[6]'(by decide)).toNat : Int) = flagG a0 := fun e => by unfold flagG; rw [e]; rfl
  rcases hcase with hm | hm | hm | hm | hm | hm | hm
  all_goals
    first | replace hx0 := hx0 hm | clear hx0
    first | replace hx1 := hx1 hm | clear hx1
    first | replace hx2 := hx2 hm | clear hx2
    first | replace hx3 := hx3 hm | clear hx3
    first | replace hx4 := hx4 hm | clear hx4
    first | replace hx5 := hx5 hm | clear hx5
    first | replace hx6 := hx6 hm | clear hx6
    rw [hm] at hmod
    clear h0 h255
    go_enter Try.func15, Try.ntmps15
    go_wp2_with (first
      | (go_at_call 38; (with_reducible refine (sennitlaw14_awake.calls k true _ HA.out).mono ?_); rintro e w1 ⟨rfl, hb⟩
         have B1 := Aside0.mk (below_step (below_alloc (Below.refl w.heap.size w) _) hb)
         have q0 := (hb.cell (p := ⟨w.heap.size, 0, none⟩) (by simp)).trans (blk_cell (Go.heap_alloc_new w _) 0)
         have q1 := (hb.cell (p := ⟨w.heap.size, 1, none⟩) (by simp)).trans (blk_cell (Go.heap_alloc_new w _) 1)
         have q2 := (hb.cell (p := ⟨w.heap.size, 2, none⟩) (by simp)).trans (blk_cell (Go.heap_alloc_new w _) 2)
         simp only [List.getElem?_toArray, List.getElem?_cons_zero, List.getElem?_cons_succ] at q0 q1 q2
         clear hb)
      | (go_at_call 39; (with_reducible refine (sennitlaw14_few.calls k _ _ l0 _ _ l1 _ _ l2 false _ (Kd.C_below R0.out B1.out) hc0 (Kd.C_below R1.out B1.out) hc1 (Kd.C_below R2.out B1.out) hc2 HF.out).mono ?_); rintro e w2 ⟨rfl, nd, rfl⟩))
    go_ret
    exact ⟨rfl, pw_below_drewN B1.out nd⟩

set_option maxHeartbeats 8000000 in
set_option maxRecDepth 100000 in
theorem result_few (k : Nat) (a0 : Int) (A0 : Option Addr) (c0 : Nat) (l0 : List ByteArray) (A1 : Option Addr) (c1 : Nat) (l1 : List ByteArray) (A2 : Option Addr) (c2 : Nat) (l2 : List ByteArray) (w : World) (h0 : 0 ≤ a0) (h255 : a0 ≤ 255)
    (hr0 : Kd.C Kd.string w A0 l0.length l0) (hc0 : l0.length ≤ c0) (hr1 : Kd.C Kd.string w A1 l1.length l1) (hc1 : l1.length ≤ c1) (hr2 : Kd.C Kd.string w A2 l2.length l2) (hc2 : l2.length ≤ c2)
    (hA : sennitlaw14_awake.f k = some true) (hF : sennitlaw14_few.f k l0 l1 l2 = some true) (x : List ByteArray) (hX : flags_Result.f k (flagG a0) l0 l1 l2 = some x) (hY : sennitref14_Result.f k (flagG a0) l0 l1 l2 = some x) (hS : sennitref01_Same.f k x x = some true) :
    Calls Try.prog 15 #[.int .u8 a0, .agg #[.slice A0 l0.length c0, .slice A1 l1.length c1, .slice A2 l2.length c2]] w fun e w' => e = .returned (.bool true) ∧ Below w.heap.size w w' := by
  have R0 := Aside0.mk hr0
  have R1 := Aside0.mk hr1
  have R2 := Aside0.mk hr2
  have HA := Aside0.mk hA
  have HF := Aside0.mk hF
  clear hr0 hr1 hr2 hA hF
  have HX := Aside0.mk hX
  have HY := Aside0.mk hY
  have HS := Aside0.mk hS
  clear hX hY hS
  have hmod : a0.tmod 7 = a0 % 7 := Int.tmod_eq_emod_of_nonneg h0
  have hcase : a0 % 7 = 0 ∨ a0 % 7 = 1 ∨ a0 % 7 = 2 ∨ a0 % 7 = 3 ∨ a0 % 7 = 4 ∨ a0 % 7 = 5 ∨ a0 % 7 = 6 := by omega
  have hx0 : a0 % 7 = 0 → ((flagsB[0]'(by decide)).toNat : Int) = flagG a0 := fun e => by unfold flagG; rw [e]; rfl
  have hx1 : a0 % 7 = 1 → ((flagsB[1]'(by decide)).toNat : Int) = flagG a0 := fun e => by unfold flagG; rw [e]; rfl
  have hx2 : a0 % 7 = 2 → ((flagsB[2]'(by decide)).toNat : Int) = flagG a0 := fun e => by unfold flagG; rw [e]; rfl
  have hx3 : a0 % 7 = 3 → ((flagsB[3]'(by decide)).toNat : Int) = flagG a0 := fun e => by unfold flagG; rw [e]; rfl
  have hx4 : a0 % 7 = 4 → ((flagsB[4]'(by decide)).toNat : Int) = flagG a0 := fun e => by unfold flagG; rw [e]; rfl
  have hx5 : a0 % 7 = 5 → ((flagsB[5]'(by decide)).toNat : Int) = flagG a0 := fun e => by unfold flagG; rw [e]; rfl
  have hx6 : a0 % 7 = 6 → ((flagsB[6]'(by decide)).toNat : Int) = flagG a0 := fun e => by unfold flagG; rw [e]; rfl
  rcases hcase with hm | hm | hm | hm | hm | hm | hm
  all_goals
    first | replace hx0 := hx0 hm | clear hx0
    first | replace hx1 := hx1 hm | clear hx1
    first | replace hx2 := hx2 hm | clear hx2
    first | replace hx3 := hx3 hm | clear hx3
    first | replace hx4 := hx4 hm | clear hx4
    first | replace hx5 := hx5 hm | clear hx5
    first | replace hx6 := hx6 hm | clear hx6
    rw [hm] at hmod
    clear h0 h255
    go_enter Try.func15, Try.ntmps15
    go_wp2_with (first
      | (go_at_call 38; (with_reducible refine (sennitlaw14_awake.calls k true _ HA.out).mono ?_); rintro e w1 ⟨rfl, hb⟩
         have B1 := Aside0.mk (below_step (below_alloc (Below.refl w.heap.size w) _) hb)
         have q0 := (hb.cell (p := ⟨w.heap.size, 0, none⟩) (by simp)).trans (blk_cell (Go.heap_alloc_new w _) 0)
         have q1 := (hb.cell (p := ⟨w.heap.size, 1, none⟩) (by simp)).trans (blk_cell (Go.heap_alloc_new w _) 1)
         have q2 := (hb.cell (p := ⟨w.heap.size, 2, none⟩) (by simp)).trans (blk_cell (Go.heap_alloc_new w _) 2)
         simp only [List.getElem?_toArray, List.getElem?_cons_zero, List.getElem?_cons_succ] at q0 q1 q2
         clear hb)
      | (go_at_call 39; (with_reducible refine (sennitlaw14_few.calls k _ _ l0 _ _ l1 _ _ l2 true _ (Kd.C_below R0.out B1.out) hc0 (Kd.C_below R1.out B1.out) hc1 (Kd.C_below R2.out B1.out) hc2 HF.out).mono ?_); rintro e w2 ⟨rfl, nd, rfl⟩))
    all_goals
      have Q0 := Aside0.mk q0
      have Q1 := Aside0.mk q1
      have Q2 := Aside0.mk q2
      have HB := Aside0.mk (pw_below_drewN B1.out nd)
      refine start_ (n := 21) (S := fun w' => w'.cell? ⟨w.heap.size, 0, none⟩ = some (.slice A0 l0.length c0) ∧ w'.cell? ⟨w.heap.size, 1, none⟩ = some (.slice A1 l1.length c1) ∧ w'.cell? ⟨w.heap.size, 2, none⟩ = some (.slice A2 l2.length c2) ∧ Below w.heap.size w w') (ds := []) #[false, false, false, false, false, false, false, false, false, false, false, false, false, false, false, false, false, false, false, false, false] (by kernel_rfl) rfl rfl ⟨Q0.out, Q1.out, Q2.out, (below_drew HB.out)⟩ (fun hHeld => ?_)
      refine pure_ (i := 0) (N := some 20) (v := ?_) (a' := ?_) #[true, false, false, false, false, false, false, false, false, false, false, false, false, false, false, false, false, false, false, false, false] rfl rfl (by kernel_rfl) (fun _ _ _ h => h) (Or.inl ⟨by rfl, ?_⟩) ?_ ?_
      rotate_left
      · intro w'
        go_simp
        with_reducible rfl
      rotate_left
      · simp only [Act.put, List.setIfInBounds_toArray, List.set_cons_zero, List.set_cons_succ, i64_w, i32_w]
        rfl
      refine pure_ (i := 1) (N := some 21) (v := ?_) (a' := ?_) #[true, true, false, false, false, false, false, false, false, false, false, false, false, false, false, false, false, false, false, false, false] rfl rfl (by kernel_rfl) (fun _ _ _ h => h) (Or.inl ⟨by rfl, ?_⟩) ?_ ?_
      rotate_left
      · intro w'
        go_simp
        with_reducible rfl
      rotate_left
      · simp only [Act.put, List.setIfInBounds_toArray, List.set_cons_zero, List.set_cons_succ, i64_w, i32_w]
        rfl
      refine pure_ (i := 2) (N := some 22) (v := ?_) (a' := ?_) #[true, true, true, false, false, false, false, false, false, false, false, false, false, false, false, false, false, false, false, false, false] rfl rfl (by kernel_rfl) (fun _ _ _ h => h) (Or.inl ⟨by rfl, ?_⟩) ?_ ?_
      rotate_left
      · intro w'
        go_simp
        with_reducible rfl
      rotate_left
      · simp only [Act.put, List.setIfInBounds_toArray, List.set_cons_zero, List.set_cons_succ, i64_w, i32_w]
        rfl
      refine pure_ (i := 3) (N := some 23) (v := ?_) (a' := ?_) #[true, true, true, true, false, false, false, false, false, false, false, false, false, false, false, false, false, false, false, false, false] rfl rfl (by kernel_rfl) (fun _ _ _ h => h) (Or.inl ⟨by rfl, ?_⟩) ?_ ?_
      rotate_left
      · intro w'
        go_simp
        with_reducible rfl
      rotate_left
      · simp only [Act.put, List.setIfInBounds_toArray, List.set_cons_zero, List.set_cons_succ, i64_w, i32_w]
        rfl
      refine pure_ (i := 5) (N := some 25) (v := ?_) (a' := ?_) #[true, true, true, true, false, true, false, false, false, false, false, false, false, false, false, false, false, false, false, false, false] rfl rfl (by kernel_rfl) (fun _ _ _ h => h) (Or.inl ⟨by rfl, ?_⟩) ?_ ?_
      rotate_left
      · intro w'
        go_simp
        with_reducible rfl
      rotate_left
      · simp only [Act.put, List.setIfInBounds_toArray, List.set_cons_zero, List.set_cons_succ, i64_w, i32_w]
        rfl
      refine pure_ (i := 7) (N := some 27) (v := ?_) (a' := ?_) #[true, true, true, true, false, true, false, true, false, false, false, false, false, false, false, false, false, false, false, false, false] rfl rfl (by kernel_rfl) (fun _ _ _ h => h) (Or.inl ⟨by rfl, ?_⟩) ?_ ?_
      rotate_left
      · intro w'
        go_simp
        with_reducible rfl
      rotate_left
      · simp only [Act.put, List.setIfInBounds_toArray, List.set_cons_zero, List.set_cons_succ, i64_w, i32_w]
        rfl
      refine pure_ (i := 10) (N := some 30) (v := ?_) (a' := ?_) #[true, true, true, true, false, true, false, true, false, false, true, false, false, false, false, false, false, false, false, false, false] rfl rfl (by kernel_rfl) (fun _ _ _ h => h) (Or.inl ⟨by rfl, ?_⟩) ?_ ?_
      rotate_left
      · intro w'
        go_simp
        with_reducible rfl
      rotate_left
      · simp only [Act.put, List.setIfInBounds_toArray, List.set_cons_zero, List.set_cons_succ, i64_w, i32_w]
        rfl
      refine pure_ (i := 11) (N := some 31) (v := ?_) (a' := ?_) #[true, true, true, true, false, true, false, true, false, false, true, true, false, false, false, false, false, false, false, false, false] rfl rfl (by kernel_rfl) (fun _ _ _ h => h) (Or.inl ⟨by rfl, ?_⟩) ?_ ?_
      rotate_left
      · intro w'
        go_simp
        with_reducible rfl
      rotate_left
      · simp only [Act.put, List.setIfInBounds_toArray, List.set_cons_zero, List.set_cons_succ, i64_w, i32_w]
        rfl
      refine pure_ (i := 13) (N := some 33) (v := ?_) (a' := ?_) #[true, true, true, true, false, true, false, true, false, false, true, true, false, true, false, false, false, false, false, false, false] rfl rfl (by kernel_rfl) (fun _ _ _ h => h) (Or.inl ⟨by rfl, ?_⟩) ?_ ?_
      rotate_left
      · intro w'
        go_simp
        with_reducible rfl
      rotate_left
      · simp only [Act.put, List.setIfInBounds_toArray, List.set_cons_zero, List.set_cons_succ, i64_w, i32_w]
        rfl
      refine pure_ (i := 15) (N := some 35) (v := ?_) (a' := ?_) #[true, true, true, true, false, true, false, true, false, false, true, true, false, true, false, true, false, false, false, false, false] rfl rfl (by kernel_rfl) (fun _ _ _ h => h) (Or.inl ⟨by rfl, ?_⟩) ?_ ?_
      rotate_left
      · intro w'
        go_simp
        with_reducible rfl
      rotate_left
      · simp only [Act.put, List.setIfInBounds_toArray, List.set_cons_zero, List.set_cons_succ, i64_w, i32_w]
        rfl
      refine take_ (i := 4) (N := some 24) (v := ?_) (a' := ?_) #[true, true, true, true, true, true, false, true, false, false, true, true, false, true, false, true, false, false, false, false, false] rfl rfl (by kernel_rfl) (fun _ _ _ h => h) (Or.inl ⟨by rfl, ?_⟩) hHeld ?_ ?_
      rotate_left
      · rintro w' ⟨s0, s1, s2, s3⟩
        go_simp
        with_reducible rfl
      rotate_left
      · simp only [Act.put, List.setIfInBounds_toArray, List.set_cons_zero, List.set_cons_succ, i64_w, i32_w]
        rfl
      refine take_ (i := 6) (N := some 26) (v := ?_) (a' := ?_) #[true, true, true, true, true, true, true, true, false, false, true, true, false, true, false, true, false, false, false, false, false] rfl rfl (by kernel_rfl) (fun _ _ _ h => h) (Or.inl ⟨by rfl, ?_⟩) hHeld ?_ ?_
      rotate_left
      · rintro w' ⟨s0, s1, s2, s3⟩
        go_simp
        with_reducible rfl
      rotate_left
      · simp only [Act.put, List.setIfInBounds_toArray, List.set_cons_zero, List.set_cons_succ, i64_w, i32_w]
        rfl
      refine take_ (i := 8) (N := some 28) (v := ?_) (a' := ?_) #[true, true, true, true, true, true, true, true, true, false, true, true, false, true, false, true, false, false, false, false, false] rfl rfl (by kernel_rfl) (fun _ _ _ h => h) (Or.inl ⟨by rfl, ?_⟩) hHeld ?_ ?_
      rotate_left
      · rintro w' ⟨s0, s1, s2, s3⟩
        go_simp
        with_reducible rfl
      rotate_left
      · simp only [Act.put, List.setIfInBounds_toArray, List.set_cons_zero, List.set_cons_succ, i64_w, i32_w]
        rfl
      refine take_ (i := 12) (N := some 32) (v := ?_) (a' := ?_) #[true, true, true, true, true, true, true, true, true, false, true, true, true, true, false, true, false, false, false, false, false] rfl rfl (by kernel_rfl) (fun _ _ _ h => h) (Or.inl ⟨by rfl, ?_⟩) hHeld ?_ ?_
      rotate_left
      · rintro w' ⟨s0, s1, s2, s3⟩
        go_simp
        with_reducible rfl
      rotate_left
      · simp only [Act.put, List.setIfInBounds_toArray, List.set_cons_zero, List.set_cons_succ, i64_w, i32_w]
        rfl
      refine take_ (i := 14) (N := some 34) (v := ?_) (a' := ?_) #[true, true, true, true, true, true, true, true, true, false, true, true, true, true, true, true, false, false, false, false, false] rfl rfl (by kernel_rfl) (fun _ _ _ h => h) (Or.inl ⟨by rfl, ?_⟩) hHeld ?_ ?_
      rotate_left
      · rintro w' ⟨s0, s1, s2, s3⟩
        go_simp
        with_reducible rfl
      rotate_left
      · simp only [Act.put, List.setIfInBounds_toArray, List.set_cons_zero, List.set_cons_succ, i64_w, i32_w]
        rfl
      refine take_ (i := 16) (N := some 36) (v := ?_) (a' := ?_) #[true, true, true, true, true, true, true, true, true, false, true, true, true, true, true, true, true, false, false, false, false] rfl rfl (by kernel_rfl) (fun _ _ _ h => h) (Or.inl ⟨by rfl, ?_⟩) hHeld ?_ ?_
      rotate_left
      · rintro w' ⟨s0, s1, s2, s3⟩
        go_simp
        with_reducible rfl
      rotate_left
      · simp only [Act.put, List.setIfInBounds_toArray, List.set_cons_zero, List.set_cons_succ, i64_w, i32_w]
        rfl
      refine one_ (i := 9) (N := some 29) #[true, true, true, true, true, true, true, true, true, true, true, true, true, true, true, true, true, false, false, false, false] rfl rfl (by kernel_rfl) (by decide) (fun K hK => ?_)
      obtain ⟨s0, s1, s2, s3⟩ := hHeld
      refine goes_ Try.func46 (by kernel_rfl) rfl #[.int .u8 (flagG a0), .slice A0 l0.length c0, .slice A1 l1.length c1, .slice A2 l2.length c2] (by rfl) rfl rfl (by simp only [List.map_toArray, List.map_cons, List.map_nil]; rfl) ?_
      with_reducible refine (flags_Result.calls k (flagG a0) _ A0 c0 l0 A1 c1 l1 _ A2 c2 l2 x _ (Kd.V_mk hc0 (Kd.C_F Kd.heap_string (Kd.C_below R0.out s3))) (Kd.C_below R1.out s3) hc1 (Kd.V_mk hc2 (Kd.C_F Kd.heap_string (Kd.C_below R2.out s3))) HX.out).mono ?_
      rintro e w3 ⟨v3, rfl, hv3, hb3⟩
      refine ⟨_, rfl, ?_⟩
      obtain ⟨Ax, cx, rfl⟩ := Kd.V_slice hv3
      refine hK.out _ _ ⟨((hb3.cell (World.block_lt_of_cell? _ _ s0)).trans s0), ((hb3.cell (World.block_lt_of_cell? _ _ s1)).trans s1), ((hb3.cell (World.block_lt_of_cell? _ _ s2)).trans s2), (below_step s3 hb3)⟩ (fun hHeld => ?_)
      clear hK K
      refine norm_ (a' := ?_) ?_ ?_
      rotate_left
      · show Act.put _ (some 29) _ = _
        simp only [Act.put, List.setIfInBounds_toArray, List.set_cons_zero, List.set_cons_succ, i64_w, i32_w]
        rfl
      refine one_ (i := 17) (N := some 37) #[true, true, true, true, true, true, true, true, true, true, true, true, true, true, true, true, true, true, false, false, false] rfl rfl (by kernel_rfl) (by decide) (fun K hK => ?_)
      obtain ⟨s0, s1, s2, s3⟩ := hHeld
      refine goes_ Try.func47 (by kernel_rfl) rfl #[.int .u8 (flagG a0), .slice A0 l0.length c0, .slice A1 l1.length c1, .slice A2 l2.length c2] (by rfl) rfl rfl (by simp only [List.map_toArray, List.map_cons, List.map_nil]; rfl) ?_
      with_reducible refine (sennitref14_Result.calls k (flagG a0) _ A0 c0 l0 A1 c1 l1 _ A2 c2 l2 x _ (Kd.V_mk hc0 (Kd.C_F Kd.heap_string (Kd.C_below R0.out s3))) (Kd.C_below R1.out s3) hc1 (Kd.V_mk hc2 (Kd.C_F Kd.heap_string (Kd.C_below R2.out s3))) HY.out).mono ?_
      rintro e w4 ⟨v4, rfl, hv4, hb4⟩
      refine ⟨_, rfl, ?_⟩
      obtain ⟨Ay, cy, rfl⟩ := Kd.V_slice hv4
      refine hK.out _ _ ⟨((hb4.cell (World.block_lt_of_cell? _ _ s0)).trans s0), ((hb4.cell (World.block_lt_of_cell? _ _ s1)).trans s1), ((hb4.cell (World.block_lt_of_cell? _ _ s2)).trans s2), (below_step s3 hb4)⟩ (fun hHeld => ?_)
      clear hK K
      refine norm_ (a' := ?_) ?_ ?_
      rotate_left
      · show Act.put _ (some 37) _ = _
        simp only [Act.put, List.setIfInBounds_toArray, List.set_cons_zero, List.set_cons_succ, i64_w, i32_w]
        rfl
      refine one_ (i := 18) (N := some 38) #[true, true, true, true, true, true, true, true, true, true, true, true, true, true, true, true, true, true, true, false, false] rfl rfl (by kernel_rfl) (by decide) (fun K hK => ?_)
      obtain ⟨s0, s1, s2, s3⟩ := hHeld
      refine goes_ Try.func23 (by kernel_rfl) rfl #[.slice Ax x.length cx, .slice Ay x.length cy] (by rfl) rfl rfl (by simp only [List.map_toArray, List.map_cons, List.map_nil]; rfl) ?_
      with_reducible refine (sennitref01_Same.calls k Ax cx x Ay cy x true _ (Kd.V_reads' (Kd.V_below hv3 hb4)).2.2 (Kd.V_reads' hv3).2.1 (Kd.V_reads' hv4).2.2 (Kd.V_reads' hv4).2.1 HS.out).mono ?_
      rintro e w5 ⟨rfl, nd5, rfl⟩
      refine ⟨_, rfl, ?_⟩
      refine hK.out _ _ ⟨s0, s1, s2, (pw_below_drewN s3 nd5)⟩ (fun hHeld => ?_)
      clear hK K
      refine norm_ (a' := ?_) ?_ ?_
      rotate_left
      · show Act.put _ (some 38) _ = _
        simp only [Act.put, List.setIfInBounds_toArray, List.set_cons_zero, List.set_cons_succ, i64_w, i32_w]
        rfl
      refine pure_ (i := 19) (N := some 39) (v := ?_) (a' := ?_) #[true, true, true, true, true, true, true, true, true, true, true, true, true, true, true, true, true, true, true, true, false] rfl rfl (by kernel_rfl) (fun _ _ _ h => h) (Or.inl ⟨by rfl, ?_⟩) ?_ ?_
      rotate_left
      · intro w'
        go_simp
        with_reducible rfl
      rotate_left
      · simp only [Act.put, List.setIfInBounds_toArray, List.set_cons_zero, List.set_cons_succ, i64_w, i32_w]
        rfl
      refine pure_ (i := 20) (N := some 4) (v := ?_) (a' := ?_) #[true, true, true, true, true, true, true, true, true, true, true, true, true, true, true, true, true, true, true, true, true] rfl rfl (by kernel_rfl) (fun _ _ _ h => h) (Or.inl ⟨by rfl, ?_⟩) ?_ ?_
      rotate_left
      · intro w'
        go_simp
        with_reducible rfl
      rotate_left
      · simp only [Act.put, List.setIfInBounds_toArray, List.set_cons_zero, List.set_cons_succ, i64_w, i32_w]
        rfl
      refine done_ (by kernel_rfl) ?_

      go_wp2
      go_ret
      exact ⟨rfl, hHeld.2.2.2⟩
end Go.Proofs.Ytbhfenpccccloaa.M
