/- Texts of the claim PickTells, put together (part 5): pick.Choose: what it chooses; its closure by a contract of its own. pick.union: what it gives, as a Lean function, and that the machine's call does what it says. By a program of this session: a Go function as a Lean function, and that the machine's call does what it says. pick.Same's closures: are two lists of lists, are two pieces the same. slices.Concat of lists of texts, and slices.Grow of nothing. pick.row: the piece that came last. pick.row: what put leaves. pick.Normal: what it gives, as a Lean function, and that the machine's call does what it says. -/
import Derived.ArgAppend
import Derived.Below
import Derived.BigQuiet
import Derived.Deep.AppendLies
import Derived.Deep.CutBlock
import Derived.Deep.DeepCutAuto
import Derived.Deep.Draws
import Derived.Deep.LoopGhost
import Derived.Deep.OwnRows
import Derived.Deep.QuietTactic
import Derived.Deep.RegionHeld3
import Derived.KernelRfl
import Derived.Laws.BitsLemmas
import Derived.Laws.BytesArg
import Derived.Laws.IdiomCopy
import Derived.Laws.MakeOwn
import Derived.Laws.OwnMore
import Derived.Laws.Rows
import Derived.Laws.Slices
import Derived.Lib.AppendStr
import Derived.Lib.ConvBytes
import Derived.Maps.AppendAt
import Derived.OrdersHeld
import Derived.OwnWalk
import Derived.RangeFuncBox
import Derived.RowKit
import Derived.RowKit3
import Derived.Tactics
import Derived.Test.YtiaoppikdgoieaaProg
import Derived.Test.YtiaoppikdgoieaaWApart
import Derived.Test.YtiaoppikdgoieaaWArr
import Derived.Test.YtiaoppikdgoieaaWAt
import Derived.Test.YtiaoppikdgoieaaWEqStruct
import Derived.Test.YtiaoppikdgoieaaWFoot
import Derived.Test.YtiaoppikdgoieaaWFootNe
import Derived.Test.YtiaoppikdgoieaaWFour
import Derived.Test.YtiaoppikdgoieaaWGuard
import Derived.Test.YtiaoppikdgoieaaWInv
import Derived.Test.YtiaoppikdgoieaaWInvWords
import Derived.Test.YtiaoppikdgoieaaWKept
import Derived.Test.YtiaoppikdgoieaaWLast
import Derived.Test.YtiaoppikdgoieaaWMore
import Derived.Test.YtiaoppikdgoieaaWN
import Derived.Test.YtiaoppikdgoieaaWNEv
import Derived.Test.YtiaoppikdgoieaaWQPut
import Derived.Test.YtiaoppikdgoieaaWRepsOne
import Derived.Test.YtiaoppikdgoieaaWShare
import Derived.Test.YtiaoppikdgoieaaWTab
import Derived.Test.YtiaoppikdgoieaaWWords
import Derived.Test.YtiaoppikdgoieaaWZeros
import Derived.WalkKit
import Derived.WideLaws
import Derived.Test.YtiaoppikdgoieaaPickTellsQ4
namespace Go.Proofs.Ytiaoppikdgoieaa.M
open Go.RowKit Go.Proofs Go.Proofs.YtiaoppikdgoieaaW.PrintWords Go.Proofs.YtiaoppikdgoieaaW.PrintLast Go.Proofs.YtiaoppikdgoieaaW.PrintMore Go.Proofs.Ytiaoppikdgoieaa.Hand
attribute [local go_sem] Oper.semAt_some
set_option linter.unusedVariables false
set_option linter.unusedSimpArgs false

/-- What is chosen of a piece, of pieces. -/
def chooseP (side : Int) (x : S27) : List ByteArray := if x.f0 = false then x.f1 else if 1 ≤ side ∧ side ≤ (x.f3.length : Int) then rd_L1 x.f3 (side - 1) else []
def chooseG (side : Int) (l : List S27) : List ByteArray := (l.map (chooseP side)).flatten
theorem chooseG_snoc (side : Int) (l : List S27) (i : Nat) (x : S27) (h : l[i]? = some x) : chooseG side (l.take (i + 1)) = chooseG side (l.take i) ++ chooseP side x := by
  unfold chooseG
  rw [take_snoc l i x h]; simp
theorem chooseG_pre (side : Int) (l : List S27) (i : Nat) : (chooseG side (l.take i)).length ≤ (chooseG side l).length := by
  have e : chooseG side l = chooseG side (l.take i) ++ chooseG side (l.drop i) := by
    unfold chooseG
    rw [← List.flatten_append, ← List.map_append, List.take_append_drop]
  rw [e]; simp
/-- The two variables: what is chosen so far, and the side. -/
def VarsC (n₀ Bo Bs : Nat) (W : World) (o : List ByteArray) (side : Int) : Prop :=
  (∃ v, Boxed W Bo 22 v ∧ Kd.R Kd.string 9 W n₀ (fun _ => True) v o) ∧ Boxed W Bs 3 (.int .i64 side)
theorem appN {ops : Array Oper} {rest : List Oper} {op : Oper} {a : Act} {Q : Exit → Act → World → Prop} (hgd : op.guard = none) (s x : Operand) (hop : op.op = .call { callee := .builtin .append, args := #[s, x], argTypes := #[22, 22] })
    (W : World) (n₀ : Nat) (v : Value) (xs ys : List ByteArray) (A : Option Addr) (c : Nat) (hs : a.eval s = v) (hx : a.eval x = .slice A ys.length c) (HO : Kd.R Kd.string 9 W n₀ (fun _ => True) v xs) (HR : Kd.C Kd.string W A ys.length ys) (hn : n₀ ≤ W.heap.size) (hl : xs.length + ys.length ≤ 1000000)
    (h : ∀ v1 w1, Kd.R Kd.string 9 w1 n₀ (fun _ => True) v1 (xs ++ ys) → Below n₀ W w1 → W.grownBy w1 v.ownBlock → wpList Try.prog ops Q rest (a.put op.dst v1) w1) :
    wpList Try.prog ops Q (op :: rest) a W :=
  Kd.R_append_rows Kd.string (w0 := W) n₀ hgd s x 22 9 (.string ⟨#[]⟩) 16 hop Try.underlying22 info9 rfl (by decide) (by omega) v xs ys A ys.length c (fun _ => True) (fun _ => False) hs hx HO HR (fun _ _ h => h) (fun _ h => h.elim) (fun _ _ => trivial) (Below.refl _ _) hn (by omega) (fun v1 w1 h1 h2 h3 _ => h v1 w1 h1 h2 h3)
theorem appN_step {ops : Array Oper} {op : Oper} {a : Act} {Q : Exit → Act → World → Prop} {Kc : Act → World → Prop} (W : World) (hw : Region.wanted op (yielded ops a.tmps) = true) (s x : Operand) (hop : op.op = .call { callee := .builtin .append, args := #[s, x], argTypes := #[22, 22] })
    (n₀ : Nat) (v : Value) (xs ys : List ByteArray) (A : Option Addr) (c : Nat) (hs : a.eval s = v) (hx : a.eval x = .slice A ys.length c) (HO : Kd.R Kd.string 9 W n₀ (fun _ => True) v xs) (HR : Kd.C Kd.string W A ys.length ys) (hn : n₀ ≤ W.heap.size) (hl : xs.length + ys.length ≤ 1000000)
    (h : ∀ v1 w1, Kd.R Kd.string 9 w1 n₀ (fun _ => True) v1 (xs ++ ys) → Below n₀ W w1 → W.grownBy w1 v.ownBlock → Kc (a.put op.dst v1) w1) :
    if Region.wanted op (yielded ops a.tmps) = true then Oper.wp Try.prog op a W Kc Q else Kc (a.put op.dst undef) W :=
  Kd.R_append_rows_step Kd.string (w0 := W) n₀ hw s x 22 9 (.string ⟨#[]⟩) 16 hop Try.underlying22 info9 rfl (by decide) (by omega) v xs ys A ys.length c (fun _ => True) (fun _ => False) hs hx HO HR (fun _ _ h => h) (fun _ h => h.elim) (fun _ _ => trivial) (Below.refl _ _) hn (by omega) (fun v1 w1 h1 h2 h3 _ => h v1 w1 h1 h2 h3)
theorem varsC_alloc {n₀ Bo Bs : Nat} {W : World} {o : List ByteArray} {side : Int} (h : VarsC n₀ Bo Bs W o side) (ob : Obj) : VarsC n₀ Bo Bs (W.alloc ob) o side := by
  obtain ⟨⟨v, hv, hR⟩, hb⟩ := h
  exact ⟨⟨v, blk_later hv (below_alloc (Below.refl _ _) ob), Kd.R_alloc hR ob⟩, blk_later hb (below_alloc (Below.refl _ _) ob)⟩
theorem varsC_drew {n₀ Bo Bs : Nat} {W : World} {o : List ByteArray} {side : Int} (h : VarsC n₀ Bo Bs W o side) : VarsC n₀ Bo Bs W.drew o side := by
  obtain ⟨⟨v, hv, hR⟩, hb⟩ := h
  exact ⟨⟨v, hv, Kd.R_drew hR⟩, hb⟩
theorem varsC_box {n₀ Bo Bs : Nat} {w1 : World} {v v1 : Value} {o : List ByteArray} {side : Int} (hn : n₀ ≤ Bo) (hne : Bs ≠ Bo) (hv : Boxed w1 Bo 22 v) (hb : Boxed w1 Bs 3 (.int .i64 side)) (hR : Kd.R Kd.string 9 w1 n₀ (fun _ => True) v1 o) :
    VarsC n₀ Bo Bs (w1.setCell ⟨Bo, 0, none⟩ v1) o side ∧ Below n₀ w1 (w1.setCell ⟨Bo, 0, none⟩ v1) :=
  ⟨⟨⟨v1, hv.set v1, Kd.R_mono (Kd.R_set hR hv (by intro q hq; simp [Kd.string, Kd.scalar] at hq; omega) 0 v1) (fun _ _ => trivial)⟩, (Below.heap_setCell w1 ⟨Bo, 0, none⟩ v1 Bs hne).trans hb⟩, (Below.refl _ _).setCell (p := ⟨Bo, 0, none⟩) (by show n₀ ≤ Bo; exact hn) _⟩

set_option maxHeartbeats 4000000 in
set_option maxRecDepth 100000 in
theorem choose68_c (n₀ Bo Bs : Nat) (hn : n₀ ≤ Bo) (hne : Bs ≠ Bo) (o : List ByteArray) (side : Int) (x : S27) (A1 : Option Addr) (c1 : Nat) (A2 : Option Addr) (c2 : Nat) (A3 : Option Addr) (c3 : Nat) (W : World) (hW : n₀ ≤ W.heap.size) (h : VarsC n₀ Bo Bs W o side)
    (hl1 : x.f1.length ≤ c1) (hC1 : Kd.string.C W A1 x.f1.length x.f1) (hl3 : x.f3.length ≤ c3) (hC3 : (Kd.slice 9 Kd.string).C W A3 x.f3.length x.f3) (hlen : o.length + (chooseP side x).length ≤ 1000000) :
    Calls Try.prog 68 #[.agg #[.bool x.f0, .slice A1 x.f1.length c1, .slice A2 x.f2.length c2, .slice A3 x.f3.length c3], .pointer (some ⟨Bo, 0, none⟩), .pointer (some ⟨Bs, 0, none⟩)] W fun e w' => e = .returned (.tuple #[]) ∧ VarsC n₀ Bo Bs w' (o ++ chooseP side x) side ∧ Below n₀ W w' := by
  have h1 := varsC_alloc h (.cells #[.bool x.f0, .slice A1 x.f1.length c1, .slice A2 x.f2.length c2, .slice A3 x.f3.length c3] 27)
  have hBW : Below n₀ W (W.alloc (.cells #[.bool x.f0, .slice A1 x.f1.length c1, .slice A2 x.f2.length c2, .slice A3 x.f3.length c3] 27)) := (Below.refl n₀ W).alloc hW _
  have hCA := Kd.C_alloc hC1 (.cells #[.bool x.f0, .slice A1 x.f1.length c1, .slice A2 x.f2.length c2, .slice A3 x.f3.length c3] 27)
  have hCB := Kd.C_alloc hC3 (.cells #[.bool x.f0, .slice A1 x.f1.length c1, .slice A2 x.f2.length c2, .slice A3 x.f3.length c3] 27)
  have hWs : n₀ ≤ (W.alloc (.cells #[.bool x.f0, .slice A1 x.f1.length c1, .slice A2 x.f2.length c2, .slice A3 x.f3.length c3] 27)).heap.size := by simp; omega
  obtain ⟨⟨v, hv, hR⟩, hb⟩ := h1
  obtain ⟨A, c, rfl⟩ := Kd.R_slice hR
  have hvc := hv.cell
  have hvf := hv.frozen
  have hbc := hb.cell
  have HV := Aside0.mk hv
  have HBX := Aside0.mk hb
  have HR := Aside0.mk hR
  have HB := Aside0.mk hBW
  have HCA := Aside0.mk hCA
  have HCB := Aside0.mk hCB
  have HS := Aside0.mk hWs
  have HLEN := Aside0.mk hlen
  have HL3 := Aside0.mk hC3.2.1
  clear h hl1 hC1 hl3 hC3 hv hb hR hBW hCA hCB hWs hlen
  cases hx0 : x.f0 with
  | false =>
    have HCP : Aside0 (chooseP side x = x.f1) := ⟨by unfold chooseP; rw [if_pos hx0]⟩
    rw [hx0] at hvc hvf hbc HV HBX HR HB HCA HCB HS
    rw [HCP.out] at HLEN ⊢
    clear hx0
    go_enter Try.func68, Try.ntmps68
    go_wp2_with (first
      | (at_builtin; refine appN rfl (.tmp 8) (.tmp 10) rfl _ n₀ _ o x.f1 A1 c1 rfl rfl HR.out HCA.out HS.out HLEN.out ?_
         intro v1 w1 hR1 hB1 hg1
         obtain ⟨A9, k9, rfl⟩ := Kd.R_slice hR1
         have hv1 := HV.out.kept hg1 (Kd.R_ne HR.out HV.out (by decide))
         have hb1 := HBX.out.kept hg1 (Kd.R_ne HR.out HBX.out (by decide))
         have hc1 := hv1.cell
         have hf1 := hv1.frozen
         have V1 := Aside0.mk hv1
         have X1 := Aside0.mk hb1
         have R1 := Aside0.mk hR1
         have L1 := Aside0.mk hB1
         clear hv1 hb1 hR1 hB1 hg1))
    obtain ⟨x1, x2⟩ := varsC_box hn hne V1.out X1.out R1.out
    rw [List.length_append] at x1 x2
    first | go_end0 | (simp only [Exit.inBlock, Exit.then]; refine bodyPost_ret (results_none rfl _ _ _) rfl ?_) | refine bodyPost_ret (results_none rfl _ _ _) rfl ?_ | trace_state
    exact ⟨rfl, x1, (HB.out.trans L1.out).trans x2⟩
  | true =>
    rw [hx0] at hvc hvf hbc HV HBX HR HB HCA HCB HS
    by_cases hs1 : 1 ≤ side
    · by_cases hs2 : side ≤ (x.f3.length : Int)
      · have HCP : Aside0 (chooseP side x = rd_L1 x.f3 (side - 1)) := ⟨by unfold chooseP; rw [if_neg (by rw [hx0]; decide), if_pos ⟨hs1, hs2⟩]⟩
        rw [HCP.out] at HLEN ⊢
        have wsub : wrap64 (side - 1) = side - 1 := by have := HL3.out; unfold wrap64; omega
        have p9 : 0 ≤ side - 1 := by omega
        have q9 : side - 1 < (x.f3.length : Int) := by omega
        obtain ⟨ad, A5, c5, rfl, hxr, hl5, hC5⟩ := at_L1 HCB.out (side - 1) p9 q9
        rw [show (side - 1).toNat = side.toNat - 1 from by omega] at hxr
        have HC5 := Aside0.mk hC5
        have HXR := Aside0.mk hxr
        have d1 : decide (side ≥ 1) = true := decide_eq_true hs1
        have d2 : decide (1 ≤ side) = true := decide_eq_true hs1
        have d3 : decide (side ≤ (x.f3.length : Int)) = true := decide_eq_true hs2
        clear hx0 hC5 hl5
        have HVC := Aside0.mk hvc
        have HBC := Aside0.mk hbc
        go_enter Try.func68, Try.ntmps68
        go_wp2
        repeat (go_quiet (fail); try go_wp2)
        obtain ⟨W4, hW4⟩ : ∃ W4, W4 = (W.alloc (.cells #[.bool true, .slice A1 x.f1.length c1, .slice A2 x.f2.length c2, .slice (some ad) x.f3.length c3] 27)).drew := ⟨_, rfl⟩
        have hpc3 : (W.alloc (.cells #[.bool true, .slice A1 x.f1.length c1, .slice A2 x.f2.length c2, .slice (some ad) x.f3.length c3] 27)).drew.cell? ⟨W.heap.size, 3, none⟩ = some (.slice (some ad) x.f3.length c3) := blk_cell (Go.heap_alloc_new W _) 3
        have HR4 := Aside0.mk (Kd.R_drew HR.out)
        have HC4 := Aside0.mk (Kd.C_drew HC5.out)
        have HS4 : Aside0 (n₀ ≤ (W.alloc (.cells #[.bool true, .slice A1 x.f1.length c1, .slice A2 x.f2.length c2, .slice (some ad) x.f3.length c3] 27)).drew.heap.size) := ⟨HS.out⟩
        have HV4 : Aside0 (Boxed (W.alloc (.cells #[.bool true, .slice A1 x.f1.length c1, .slice A2 x.f2.length c2, .slice (some ad) x.f3.length c3] 27)).drew Bo 22 (Value.slice A o.length c)) := ⟨HV.out⟩
        have HBX4 : Aside0 (Boxed (W.alloc (.cells #[.bool true, .slice A1 x.f1.length c1, .slice A2 x.f2.length c2, .slice (some ad) x.f3.length c3] 27)).drew Bs 3 (Value.int IntKind.i64 side)) := ⟨HBX.out⟩
        have HB4 := Aside0.mk (below_drew HB.out)
        rw [← hW4] at HR4 HC4 HS4 HV4 HBX4 HB4
        refine start_ (n := 9) (S := fun w' => w'.cell? ⟨Bo, 0, none⟩ = some (.slice A o.length c) ∧ w'.cell? ⟨W.heap.size, 3, none⟩ = some (.slice (some ad) x.f3.length c3) ∧ w'.cell? ⟨Bs, 0, none⟩ = some (.int .i64 side) ∧ w'.cell? (ad.add (side.toNat - 1)) = some (.slice A5 (rd_L1 x.f3 (side - 1)).length c5)) (ds := [7, 8]) #[false, false, false, false, false, false, false, false, false] (by kernel_rfl) rfl rfl ⟨HVC.out, hpc3, HBC.out, HXR.out⟩ (fun hHeld => ?_)
        rw [← hW4] at hHeld ⊢
        clear hW4 hvc hvf hbc hxr hpc3
        refine pure_ (i := 1) (N := some 23) (v := ?_) (a' := ?_) #[false, true, false, false, false, false, false, false, false] rfl rfl (by kernel_rfl) (fun _ _ _ h => h) (Or.inl ⟨by rfl, ?_⟩) ?_ ?_
        rotate_left
        · intro w'
          go_simp
          with_reducible rfl
        rotate_left
        · simp only [Act.put, List.setIfInBounds_toArray, List.set_cons_zero, List.set_cons_succ, i64_w, i32_w]
          rfl
        refine take_ (i := 0) (N := some 22) (v := ?_) (a' := ?_) #[true, true, false, false, false, false, false, false, false] rfl rfl (by kernel_rfl) (fun _ _ _ h => h) (Or.inl ⟨by rfl, ?_⟩) hHeld ?_ ?_
        rotate_left
        · rintro w' ⟨s0, s1, s2, s3⟩
          go_simp
          with_reducible rfl
        rotate_left
        · simp only [Act.put, List.setIfInBounds_toArray, List.set_cons_zero, List.set_cons_succ, i64_w, i32_w]
          rfl
        refine take_ (i := 2) (N := some 24) (v := ?_) (a' := ?_) #[true, true, true, false, false, false, false, false, false] rfl rfl (by kernel_rfl) (fun _ _ _ h => h) (Or.inl ⟨by rfl, ?_⟩) hHeld ?_ ?_
        rotate_left
        · rintro w' ⟨s0, s1, s2, s3⟩
          go_simp
          with_reducible rfl
        rotate_left
        · simp only [Act.put, List.setIfInBounds_toArray, List.set_cons_zero, List.set_cons_succ, i64_w, i32_w]
          rfl
        refine take_ (i := 3) (N := some 25) (v := ?_) (a' := ?_) #[true, true, true, true, false, false, false, false, false] rfl rfl (by kernel_rfl) (fun _ _ _ h => h) (Or.inl ⟨by rfl, ?_⟩) hHeld ?_ ?_
        rotate_left
        · rintro w' ⟨s0, s1, s2, s3⟩
          go_simp
          with_reducible rfl
        rotate_left
        · simp only [Act.put, List.setIfInBounds_toArray, List.set_cons_zero, List.set_cons_succ, i64_w, i32_w]
          rfl
        refine pure_ (i := 4) (N := some 26) (v := ?_) (a' := ?_) #[true, true, true, true, true, false, false, false, false] rfl rfl (by kernel_rfl) (fun _ _ _ h => h) (Or.inl ⟨by rfl, ?_⟩) ?_ ?_
        rotate_left
        · intro w'
          go_simp
          with_reducible rfl
        rotate_left
        · simp only [Act.put, List.setIfInBounds_toArray, List.set_cons_zero, List.set_cons_succ, i64_w, i32_w]
          rfl
        refine pure_ (i := 5) (N := some 27) (v := ?_) (a' := ?_) #[true, true, true, true, true, true, false, false, false] rfl rfl (by kernel_rfl) (fun _ _ _ h => h) (Or.inl ⟨by rfl, ?_⟩) ?_ ?_
        rotate_left
        · intro w'
          go_simp
          with_reducible rfl
        rotate_left
        · simp only [Act.put, List.setIfInBounds_toArray, List.set_cons_zero, List.set_cons_succ, i64_w, i32_w]
          rfl
        refine take_ (i := 6) (N := some 28) (v := ?_) (a' := ?_) #[true, true, true, true, true, true, true, false, false] rfl rfl (by kernel_rfl) (fun _ _ _ h => h) (Or.inl ⟨by rfl, ?_⟩) hHeld ?_ ?_
        rotate_left
        · rintro w' ⟨s0, s1, s2, s3⟩
          go_simp
          with_reducible rfl
        rotate_left
        · simp only [Act.put, List.setIfInBounds_toArray, List.set_cons_zero, List.set_cons_succ, i64_w, i32_w]
          rfl
        refine last_ (i := 7) (N := some 29) #[true, true, true, true, true, true, true, true, false] rfl rfl (by kernel_rfl) (by decide) (fun K hK => ?_)
        refine appN_step _ (by rfl) (.tmp 22) (.tmp 28) rfl n₀ _ o (rd_L1 x.f3 (side - 1)) A5 c5 rfl rfl HR4.out HC4.out HS4.out HLEN.out ?_
        intro v1 w1 hR1 hB1 hg1
        obtain ⟨A9, k9, rfl⟩ := Kd.R_slice hR1
        have hv1 := HV4.out.kept hg1 (Kd.R_ne HR4.out HV4.out (by decide))
        have hb1 := HBX4.out.kept hg1 (Kd.R_ne HR4.out HBX4.out (by decide))
        obtain ⟨x1, x2⟩ := varsC_box hn hne hv1 hb1 hR1
        rw [List.length_append] at x1 x2
        have hc1 := hv1.cell
        have hf1 := hv1.frozen
        have L1 := Aside0.mk hB1
        clear hv1 hb1 hR1 hB1 hg1
        refine hK.out _ _ ?_
        clear hK K
        refine norm_ (a' := ?_) ?_ ?_
        rotate_left
        · show Act.put _ (some 29) _ = _
          simp only [Act.put, List.setIfInBounds_toArray, List.set_cons_zero, List.set_cons_succ, i64_w, i32_w]
          rfl
        refine last_ (i := 8) (N := none) #[true, true, true, true, true, true, true, true, true] rfl rfl (by kernel_rfl) (by decide) (fun K hK => ?_)
        refine skip_ (w1 := ?_) (by rfl) rfl ?_ ?_
        rotate_left
        · go_simp
          rfl
        refine hK.out _ _ ?_
        clear hK K
        refine done_ (by kernel_rfl) ?_

        go_wp2
        first | go_end0 | (simp only [Exit.inBlock, Exit.then]; refine bodyPost_ret (results_none rfl _ _ _) rfl ?_) | refine bodyPost_ret (results_none rfl _ _ _) rfl ?_ | trace_state
        exact ⟨rfl, x1, (HB4.out.trans L1.out).trans x2⟩
      · have HCP : Aside0 (chooseP side x = []) := ⟨by unfold chooseP; rw [if_neg (by rw [hx0]; decide), if_neg (fun h => hs2 h.2)]⟩
        rw [HCP.out, List.append_nil]
        have d1 : decide (side ≥ 1) = true := decide_eq_true hs1
        have d2 : decide (1 ≤ side) = true := decide_eq_true hs1
        have d3 : decide (side ≤ (x.f3.length : Int)) = false := decide_eq_false hs2
        clear hx0
        go_enter Try.func68, Try.ntmps68
        go_wp2
        repeat (go_quiet (fail); try go_wp2)
        first | go_end0 | (simp only [Exit.inBlock, Exit.then]; refine bodyPost_ret (results_none rfl _ _ _) rfl ?_) | refine bodyPost_ret (results_none rfl _ _ _) rfl ?_ | trace_state
        exact ⟨rfl, ⟨⟨_, HV.out, HR.out⟩, HBX.out⟩, HB.out⟩
    · have HCP : Aside0 (chooseP side x = []) := ⟨by unfold chooseP; rw [if_neg (by rw [hx0]; decide), if_neg (fun h => hs1 h.1)]⟩
      rw [HCP.out, List.append_nil]
      have d1 : decide (side ≥ 1) = false := decide_eq_false hs1
      have d2 : decide (1 ≤ side) = false := decide_eq_false hs1
      clear hx0
      go_enter Try.func68, Try.ntmps68
      go_wp2
      repeat (go_quiet (fail); try go_wp2)
      first | go_end0 | (simp only [Exit.inBlock, Exit.then]; refine bodyPost_ret (results_none rfl _ _ _) rfl ?_) | refine bodyPost_ret (results_none rfl _ _ _) rfl ?_ | trace_state
      exact ⟨rfl, ⟨⟨_, HV.out, HR.out⟩, HBX.out⟩, HB.out⟩

set_option maxHeartbeats 4000000 in
set_option maxRecDepth 100000 in
theorem each68_c (w0 : World) (Bo Bs : Nat) (hn : w0.heap.size ≤ Bo) (hne : Bs ≠ Bo) (side : Int) (A0 : Option Addr) (c0 : Nat) (l0 : List S27) (hr0 : Kd.C k27 w0 A0 l0.length l0) (W : World) (hB0 : Below w0.heap.size w0 W) (h : VarsC w0.heap.size Bo Bs W [] side) (hlen : (chooseG side l0).length ≤ 1000000) :
    Calls Try.prog 64 #[.slice A0 l0.length c0, .func (.func 68) #[] #[.pointer (some ⟨Bo, 0, none⟩), .pointer (some ⟨Bs, 0, none⟩)]] W fun e w' => e = .returned (.tuple #[]) ∧ VarsC w0.heap.size Bo Bs w' (chooseG side l0) side ∧ Below w0.heap.size w0 w' := by
  have R0 := Aside0.mk hr0
  have HV0 := Aside0.mk h
  have HB0 := Aside0.mk hB0
  have HL := Aside0.mk hr0.2.1
  have HLE := Aside0.mk hlen
  clear hr0 h hB0 hlen
  go_enter Try.func64, Try.ntmps64
  go_wp2
  go_loopg [8] l0.length (fun kq v8 wr => ∃ i : Nat, v8 = .int .i64 (i : Int) ∧ Aside0 (i ≤ l0.length ∧ kq = l0.length - i) ∧ Aside0 (VarsC w0.heap.size Bo Bs wr (chooseG side (l0.take i)) side) ∧ Aside0 (Below w0.heap.size w0 wr))
  case atStart => exact ⟨0, rfl, ⟨Nat.zero_le _, rfl⟩, ⟨by simpa [chooseG] using HV0.out⟩, HB0⟩
  case round =>
    obtain ⟨i, rfl, HI, HV, HB⟩ := hrel
    have hli := HL.out
    by_cases c4 : i < l0.length
    · have c4b0 : decide ((i : Int) < (l0.length : Int)) = true := decide_eq_true (by omega)
      have c4b1 : decide (i < l0.length) = true := decide_eq_true c4
      obtain ⟨z, g0⟩ : ∃ z, l0[i]? = some z := ⟨_, List.getElem?_eq_getElem c4⟩
      obtain ⟨ad, A1, c1, A2, c2, A3, c3, rfl, hx0, hx1, hx2, hx3, hl1, hi1, hl2, hi2, hl3, hi3⟩ := C_piece (Kd.C_below R0.out HB.out) i z g0
      have HSN := Aside0.mk (chooseG_snoc side l0 i z g0)
      have HPL := Aside0.mk (chooseG_pre side l0 (i + 1))
      have HC1 := Aside0.mk hi1
      have HC3 := Aside0.mk hi3
      clear hl2 hi2 g0 hi1 hi3
      have bi : (i : Int) < 9223372036854775807 := by omega
      go_wp2_with (go_at_call 68; (with_reducible refine (choose68_c w0.heap.size Bo Bs hn hne (chooseG side (l0.take i)) side z A1 c1 A2 c2 A3 c3 _ ?hW ?hv hl1 ?hC1 hl3 ?hC3 ?hl).mono ?_); (case hW => exact Nat.le_trans (below_size HB.out) (by simp)); (case hv => exact varsC_alloc HV.out _); (case hC1 => exact Kd.C_alloc HC1.out _); (case hC3 => exact Kd.C_alloc HC3.out _); (case hl => have h1 := HPL.out; have h2 := HLE.out; rw [HSN.out, List.length_append] at h1; omega); rintro e w' ⟨rfl, hv2, hb2⟩; rw [← HSN.out] at hv2; have n1 := Aside0.mk hv2; have n2 := Aside0.mk ((below_alloc HB.out _).trans hb2); clear hv2 hb2)
      go_roundg (l0.length - (i + 1))
      case measure => have := HI.out; omega
      case rel => exact ⟨i + 1, by go_num, ⟨by omega, rfl⟩, n1, n2⟩
    · have c4b0 : decide ((i : Int) < (l0.length : Int)) = false := decide_eq_false (by omega)
      have c4b1 : decide (i < l0.length) = false := decide_eq_false c4
      have HT := Aside0.mk (List.take_of_length_le (l := l0) (i := i) (by omega))
      rw [HT.out] at HV
      clear c4
      go_wp2
      first | go_end0 | (simp only [Exit.inBlock, Exit.then]; refine bodyPost_ret (results_none rfl _ _ _) rfl ?_) | refine bodyPost_ret (results_none rfl _ _ _) rfl ?_ | trace_state
      exact ⟨rfl, HV.out, HB.out⟩

def pick_Choose.f (k : Nat) (l0 : List S27) (a1 : Int) : Option (List ByteArray) := if (chooseG a1 l0).length ≤ 1000000 then some (chooseG a1 l0) else none
theorem pick_Choose.mono : ∀ a0 a1 k, LeO (pick_Choose.f k a0 a1) (pick_Choose.f (k + 1) a0 a1) := fun _ _ _ => LeO.refl _
set_option maxHeartbeats 1000000 in
set_option maxRecDepth 100000 in
theorem pick_Choose.calls (k : Nat) (A0 : Option Addr) (c0 : Nat) (l0 : List S27) (a1 : Int) (r : List ByteArray) (w : World) (hr0 : Kd.C k27 w A0 l0.length l0) (hc0 : l0.length ≤ c0) (h : pick_Choose.f k l0 a1 = some r) :
    Calls Try.prog 44 #[.slice A0 l0.length c0, .int .i64 a1] w fun e w' => ∃ v0_ : Value, e = .returned (v0_) ∧ Kd.R Kd.string 9 w' w.heap.size (fun _ => True) v0_ r ∧ Below w.heap.size w w' := by
  unfold pick_Choose.f at h
  by_cases hb : (chooseG a1 l0).length ≤ 1000000
  · rw [if_pos hb] at h
    obtain rfl := Option.some.inj h
    have HB1 := Aside0.mk (below_alloc (below_alloc (Below.refl w.heap.size w) (.cells #[.int .i64 a1] 3)) (.cells #[.slice none 0 0] 22))
    have HVC : Aside0 (VarsC w.heap.size (w.heap.size + 1) w.heap.size ((w.alloc (.cells #[.int .i64 a1] 3)).alloc (.cells #[.slice none 0 0] 22)) [] a1) := ⟨⟨.slice none 0 0, by
      have := Go.heap_alloc_new (w.alloc (.cells #[.int .i64 a1] 3)) (.cells #[.slice none 0 0] 22)
      rw [World.size_alloc] at this
      exact this, Kd.R_nil _ _ _ _ _⟩, blk_later (Go.heap_alloc_new w _) (below_alloc (Below.refl _ _) _)⟩
    have HEC := Aside0.mk (each68_c w (w.heap.size + 1) w.heap.size (by omega) (by omega) a1 A0 c0 l0 hr0 _ HB1.out HVC.out hb)
    clear hr0 hc0 hb h HVC
    go_enter Try.func44, Try.ntmps44
    go_wp2_with (go_at_call 64; (with_reducible refine HEC.out.mono ?_); rintro e w' ⟨rfl, ⟨⟨v, hv, hR⟩, hbx⟩, hb⟩; have hvc := hv.cell; have HR := Aside0.mk hR; have HB := Aside0.mk hb; clear hv hR hbx hb)
    go_ret
    exact ⟨v, rfl, HR.out, HB.out⟩
  · rw [if_neg hb] at h
    exact absurd h (by simp)
end Go.Proofs.Ytiaoppikdgoieaa.M
namespace Go.Proofs.Ytiaoppikdgoieaa.M
open Go.RowKit Go.Proofs Go.Proofs.YtiaoppikdgoieaaW.PrintWords Go.Proofs.YtiaoppikdgoieaaW.PrintLast Go.Proofs.YtiaoppikdgoieaaW.PrintMore Go.Proofs.Ytiaoppikdgoieaa.Hand
attribute [local go_sem] Oper.semAt_some
set_option linter.unusedVariables false
set_option linter.unusedSimpArgs false

/-- Does a text end with a line feed? -/
def feedB (s : ByteArray) : Bool := s.data.toList.getLast? == some 10
/-- Is the last text not ended? -/
def openL (l : List ByteArray) : Bool := match l.getLast? with
  | none => false
  | some s => !feedB s
theorem last_two {s : List UInt8} (h : s ≠ []) : s.drop (s.length - 1) = [s.getLast h] := by
  conv => lhs; arg 2; rw [← List.dropLast_concat_getLast h]
  rw [List.drop_append_of_le_length (by simp), List.drop_of_length_le (by simp)]
  rfl
theorem suffix_f (s : ByteArray) (hs : s.size ≤ 4000000000000000000) : strings_HasSuffix.f s (⟨#[10]⟩ : ByteArray) = some (feedB s) := by
  unfold strings_HasSuffix.f stringslite_HasSuffix.f
  have e1 : (⟨#[10]⟩ : ByteArray).size = 1 := rfl
  have e2 : (⟨#[10]⟩ : ByteArray).toList = [10] := by rw [ByteArray.toList_eq]
  rw [e1, e2]
  by_cases h : 1 ≤ s.size
  · have hw : wrap64 ((s.size : Int) - ((1 : Nat) : Int)) = ((s.size - 1 : Nat) : Int) := by unfold wrap64; omega
    rw [if_pos (by omega), hw, if_pos (by omega), if_pos (by omega), Int.toNat_natCast, Option.bind_some, ByteArray.toList_eq]
    congr 1
    have hne : s.data.toList ≠ [] := by
      intro e
      have : s.data.toList.length = s.size := rfl
      rw [e] at this; simp at this; omega
    have hx : (s.extract (s.size - 1) s.size).data.toList = [s.data.toList.getLast hne] := by
      rw [← last_two hne]
      have hl : s.data.toList.length = s.size := rfl
      rw [hl, ByteArray.data_extract, Array.toList_extract, List.extract_eq_take_drop]
      rw [List.take_of_length_le (by rw [List.length_drop, hl]; omega)]
    rw [hx, feedB, List.getLast?_eq_some_getLast hne]
    simp [Bool.eq_iff_iff]
  · rw [if_neg (by omega), Option.bind_some]
    congr 1
    have hz : s.data.toList = [] := List.eq_nil_of_length_eq_zero (by have : s.data.toList.length = s.size := rfl; omega)
    rw [feedB, hz]; rfl
theorem rdS_last {l : List ByteArray} {s : ByteArray} (h : l.getLast? = some s) : 0 < l.length ∧ rdOf ByteArray.empty l ((l.length - 1 : Nat) : Int) = s ∧ s ∈ l := by
  have hne : l ≠ [] := by intro e; rw [e] at h; simp at h
  have hp : 0 < l.length := List.length_pos_iff.2 hne
  refine ⟨hp, ?_, List.mem_of_getLast? h⟩
  rw [List.getLast?_eq_getElem?] at h
  simp [rdOf, List.getD_eq_getElem?_getD, h]
theorem open_f (l : List ByteArray) (hl : l.length ≤ 4000000000000000000) (hs : ∀ s ∈ l, s.size ≤ 4000000000000000000) : lines_Open.f l = some (openL l) := by
  unfold lines_Open.f openL
  cases h : l.getLast? with
  | none =>
    have : l = [] := List.getLast?_eq_none_iff.1 h
    subst this
    rw [if_neg (by simp)]
  | some s =>
    obtain ⟨hp, hr, hm⟩ := rdS_last h
    have hw : wrap64 ((l.length : Int) - 1) = ((l.length - 1 : Nat) : Int) := by unfold wrap64; omega
    rw [if_pos (by omega), hw, if_pos (by omega), if_pos (by omega), hr, suffix_f s (hs s hm), Option.bind_some]

/-- Lists, one behind the other; an open one, with something behind it, is ended. -/
def endL (o : List ByteArray) : List ByteArray := o.set (o.length - 1) (rdOf ByteArray.empty o ((o.length - 1 : Nat) : Int) ++ ⟨#[10]⟩)
def unionS (o k : List ByteArray) : List ByteArray := (if k ≠ [] ∧ openL o = true then endL o else o) ++ k
def unionG (l : List (List ByteArray)) : List ByteArray := l.foldl unionS []
theorem unionG_snoc (l : List (List ByteArray)) (i : Nat) (x : List ByteArray) (h : l[i]? = some x) : unionG (l.take (i + 1)) = unionS (unionG (l.take i)) x := by
  unfold unionG
  rw [take_snoc l i x h, List.foldl_append]; rfl
theorem endL_len (o : List ByteArray) : (endL o).length = o.length := by simp [endL]
theorem unionS_len (o k : List ByteArray) : (unionS o k).length = o.length + k.length := by
  unfold unionS
  rw [List.length_append]
  split
  · rw [endL_len]
  · rfl
theorem endL_size {o : List ByteArray} {M : Nat} (h : ∀ s ∈ o, s.size ≤ M) : ∀ s ∈ endL o, s.size ≤ M + 1 := by
  intro s hs
  unfold endL at hs
  rcases List.mem_or_eq_of_mem_set hs with hs | hs
  · have := h s hs; omega
  · rw [hs, ByteArray.size_append]
    have e1 : (⟨#[10]⟩ : ByteArray).size = 1 := rfl
    rw [e1]
    have : (rdOf ByteArray.empty o ((o.length - 1 : Nat) : Int)).size ≤ M := by
      rw [rdOf, Int.toNat_natCast, List.getD_eq_getElem?_getD]
      cases e : o[o.length - 1]? with
      | none => simp
      | some q => exact h q (List.mem_of_getElem? e)
    omega
theorem unionS_size {o k : List ByteArray} {M N : Nat} (h : ∀ s ∈ o, s.size ≤ M) (hk : ∀ s ∈ k, s.size ≤ N) (hN : N ≤ M) : ∀ s ∈ unionS o k, s.size ≤ M + 1 := by
  intro s hs
  unfold unionS at hs
  rcases List.mem_append.1 hs with hs | hs
  · split at hs
    · exact endL_size h s hs
    · have := h s hs; omega
  · have := hk s hs; omega

def VarU (n₀ Bo : Nat) (W : World) (o : List ByteArray) : Prop := ∃ v, Boxed W Bo 22 v ∧ Kd.R Kd.string 9 W n₀ (fun _ => True) v o
theorem varU_box {n₀ Bo : Nat} {w1 : World} {v v1 : Value} {o : List ByteArray} (hn : n₀ ≤ Bo) (hv : Boxed w1 Bo 22 v) (hR : Kd.R Kd.string 9 w1 n₀ (fun _ => True) v1 o) :
    VarU n₀ Bo (w1.setCell ⟨Bo, 0, none⟩ v1) o ∧ Below n₀ w1 (w1.setCell ⟨Bo, 0, none⟩ v1) :=
  ⟨⟨v1, hv.set v1, Kd.R_mono (Kd.R_set hR hv (by intro q hq; simp [Kd.string, Kd.scalar] at hq; omega) 0 v1) (fun _ _ => trivial)⟩, (Below.refl _ _).setCell (p := ⟨Bo, 0, none⟩) (by show n₀ ≤ Bo; exact hn) _⟩

set_option maxHeartbeats 4000000 in
set_option maxRecDepth 100000 in
theorem add70_no (n₀ Bo : Nat) (hn : n₀ ≤ Bo) (o l : List ByteArray) (A0 : Option Addr) (c0 : Nat) (W : World) (hW : n₀ ≤ W.heap.size) (h : VarU n₀ Bo W o) (hr : Kd.C Kd.string W A0 l.length l) (hc : l.length ≤ c0) (hsz : ∀ s ∈ o, s.size ≤ 2000000) (hol : o.length + l.length ≤ 1000000) (hno : ¬ (l ≠ [] ∧ openL o = true)) :
    Calls Try.prog 70 #[.slice A0 l.length c0, .pointer (some ⟨Bo, 0, none⟩)] W fun e w' => e = .returned (.tuple #[]) ∧ VarU n₀ Bo w' (o ++ l) ∧ Below n₀ W w' := by
  obtain ⟨v, hv, hR⟩ := h
  obtain ⟨A, c, rfl⟩ := Kd.R_slice hR
  have hvc := hv.cell
  have hvf := hv.frozen
  have HV := Aside0.mk hv
  have HR := Aside0.mk hR
  have HC := Aside0.mk hr
  have HOL := Aside0.mk hol
  have HOP := Aside0.mk (open_f o (by omega) (fun s hs => by have := hsz s hs; omega))
  have HW := Aside0.mk hW
  have HNO := Aside0.mk hno
  clear hv hR hr hol hsz hW hno
  by_cases hl : l = []
  · have hl0 : l.length = 0 := by rw [hl]; rfl
    have c1 : decide ((l.length : Int) > 0) = false := decide_eq_false (by omega)
    have c2 : decide (0 < (l.length : Int)) = false := decide_eq_false (by omega)
    have c3 : decide (0 < l.length) = false := decide_eq_false (by omega)
    clear hl hl0
    go_enter Try.func70, Try.ntmps70
    go_wp2_with (first
      | (at_builtin; refine appN rfl (.tmp 18) (.tmp 19) rfl W n₀ _ o l A0 c0 rfl rfl HR.out HC.out HW.out HOL.out ?_
         intro v1 w1 hR1 hB1 hg1
         obtain ⟨A9, k9, rfl⟩ := Kd.R_slice hR1
         have hv1 := HV.out.kept hg1 (Kd.R_ne HR.out HV.out (by decide))
         have hc1 := hv1.cell
         have hf1 := hv1.frozen
         have V1 := Aside0.mk hv1
         have R1 := Aside0.mk hR1
         have L1 := Aside0.mk hB1
         clear hv1 hR1 hB1 hg1))
    obtain ⟨x1, x2⟩ := varU_box hn V1.out R1.out
    rw [List.length_append] at x1 x2
    first | go_end0 | (simp only [Exit.inBlock, Exit.then]; refine bodyPost_ret (results_none rfl _ _ _) rfl ?_) | refine bodyPost_ret (results_none rfl _ _ _) rfl ?_ | trace_state
    exact ⟨rfl, x1, L1.out.trans x2⟩
  · have hl0 : 0 < l.length := List.length_pos_iff.2 hl
    have c1 : decide ((l.length : Int) > 0) = true := decide_eq_true (by omega)
    have c2 : decide (0 < (l.length : Int)) = true := decide_eq_true (by omega)
    have c3 : decide (0 < l.length) = true := decide_eq_true (by omega)
    have HO : Aside0 (lines_Open.f o = some false) := ⟨by
      rw [HOP.out]
      cases e : openL o with
      | false => rfl
      | true => exact absurd ⟨hl, e⟩ HNO.out⟩
    clear hl
    go_enter Try.func70, Try.ntmps70
    go_wp2_with (first
      | (go_at_call 71; (with_reducible refine (lines_Open.calls _ _ o false _ (Kd.R_reads' HR.out).2.2 (Kd.R_reads' HR.out).2.1 HO.out).mono ?_); rintro e w' ⟨rfl, ⟨nd, rfl⟩⟩)
      | (at_builtin; refine appN rfl (.tmp 18) (.tmp 19) rfl (W.drewN nd) n₀ _ o l A0 c0 rfl rfl (Kd.R_drewN HR.out nd) (Kd.C_drewN HC.out nd) HW.out HOL.out ?_
         intro v1 w1 hR1 hB1 hg1
         obtain ⟨A9, k9, rfl⟩ := Kd.R_slice hR1
         have hv1 := (show Boxed (W.drewN nd) Bo 22 _ from HV.out).kept hg1 (Kd.R_ne (Kd.R_drewN HR.out nd) (show Boxed (W.drewN nd) Bo 22 _ from HV.out) (by decide))
         have hc1 := hv1.cell
         have hf1 := hv1.frozen
         have V1 := Aside0.mk hv1
         have R1 := Aside0.mk hR1
         have L1 := Aside0.mk ((pw_below_drewN (Below.refl n₀ W) nd).trans hB1)
         clear hv1 hR1 hB1 hg1))
    obtain ⟨x1, x2⟩ := varU_box hn V1.out R1.out
    rw [List.length_append] at x1 x2
    first | go_end0 | (simp only [Exit.inBlock, Exit.then]; refine bodyPost_ret (results_none rfl _ _ _) rfl ?_) | refine bodyPost_ret (results_none rfl _ _ _) rfl ?_ | trace_state
    exact ⟨rfl, x1, L1.out.trans x2⟩

set_option maxHeartbeats 4000000 in
set_option maxRecDepth 100000 in
theorem add70_yes (n₀ Bo : Nat) (hn : n₀ ≤ Bo) (o l : List ByteArray) (A0 : Option Addr) (c0 : Nat) (W : World) (hW : n₀ ≤ W.heap.size) (h : VarU n₀ Bo W o) (hr0 : ∀ W', Below n₀ W W' → Kd.C Kd.string W' A0 l.length l) (hc : l.length ≤ c0) (hsz : ∀ s ∈ o, s.size ≤ 2000000) (hol : o.length + l.length ≤ 1000000) (hl : l ≠ []) (hop : openL o = true) :
    Calls Try.prog 70 #[.slice A0 l.length c0, .pointer (some ⟨Bo, 0, none⟩)] W fun e w' => e = .returned (.tuple #[]) ∧ VarU n₀ Bo w' (endL o ++ l) ∧ Below n₀ W w' := by
  obtain ⟨v, hv, hR⟩ := h
  obtain ⟨s, hs⟩ : ∃ s, o.getLast? = some s := by
    unfold openL at hop
    split at hop
    · cases hop
    · exact ⟨_, ‹_›⟩
  obtain ⟨hp, hrd, hsm⟩ := rdS_last hs
  obtain ⟨N, hN⟩ : ∃ N, o.length = N + 1 := ⟨o.length - 1, by omega⟩
  obtain ⟨g, cap, rfl, hbg, hgl, cells, hblk⟩ := Kd.R_form hR hp
  have HE : Aside0 (endL o = o.set N (s ++ ⟨#[10]⟩)) := ⟨by unfold endL; rw [hrd, hN]; rfl⟩
  obtain ⟨hx1, hx2⟩ := Kd.R_celln ByteArray.empty hR (N : Int) (by omega) (by omega)
  have ers : rdOf ByteArray.empty o (N : Int) = s := by rw [← hrd, hN]; rfl
  rw [ers] at hx1
  simp only [Int.toNat_natCast] at hx1 hx2
  have hss := hsz s hsm
  have hgo : Bo ≠ g := fun e => by rw [← e] at hblk; rw [show W.heap[Bo]? = _ from hv] at hblk; cases hblk
  have HO : Aside0 (lines_Open.f o = some true) := ⟨by rw [open_f o (by omega) (fun q hq => by have := hsz q hq; omega), hop]⟩
  have hl0 : 0 < l.length := List.length_pos_iff.2 hl
  have c1 : decide ((l.length : Int) > 0) = true := decide_eq_true (by omega)
  have c2 : decide (0 < (l.length : Int)) = true := decide_eq_true (by omega)
  have c3 : decide (0 < l.length) = true := decide_eq_true (by omega)
  have hsl2 : (9223372036854775807 < s.size + 1) = False := eq_false (by omega)
  have hsl3 : (s.size + 1 ≤ 9223372036854775807) = True := eq_true (by omega)
  have hNb : N < 1000000 := by omega
  rw [hN] at hv
  have hvc := hv.cell
  have hvf := hv.frozen
  have HV := Aside0.mk hv
  have HR := Aside0.mk hR
  have HC := Aside0.mk hr0
  have HOL := Aside0.mk hol
  have HW := Aside0.mk hW
  have HN := Aside0.mk hN
  have HGO := Aside0.mk hgo
  have HBG := Aside0.mk hbg
  have HRD : Aside0 (∀ A, Value.slice A o.length cap = Value.slice A (N + 1) cap) := ⟨fun A => by rw [hN]⟩
  clear hv hR hr0 hol hsz hW hl hop hs hp hrd hsm hN hbg hgl hblk ers hgo
  go_enter Try.func70, Try.ntmps70
  go_wp2_with (first
    | (go_at_call 71; (with_reducible refine ((show Calls Try.prog 71 #[.slice (some ⟨g, 0, none⟩) (N + 1) cap] W (fun e w' => e = .returned (.bool true) ∧ Drawn0 W w') from by
          rw [← HRD.out]; exact lines_Open.calls _ _ o true _ (Kd.R_reads' HR.out).2.2 (Kd.R_reads' HR.out).2.1 HO.out)).mono ?_); rintro e w' ⟨rfl, ⟨nd, rfl⟩⟩
       have hv2 : Boxed ((W.drewN nd).setCell ⟨g, N, none⟩ (.string (s ++ ⟨#[10]⟩))) Bo 22 (.slice (some ⟨g, 0, none⟩) (N + 1) cap) := (Below.heap_setCell _ ⟨g, N, none⟩ _ Bo HGO.out).trans HV.out
       have hR2 : Kd.R Kd.string 9 ((W.drewN nd).setCell ⟨g, N, none⟩ (.string (s ++ ⟨#[10]⟩))) n₀ (fun _ => True) (.slice (some ⟨g, 0, none⟩) (N + 1) cap) (endL o) := by
         rw [HE.out, ← HRD.out]; exact Kd.R_putn (enc := Value.string) (Kd.R_drewN HR.out nd) (N : Int) _
       have hb2 : Below n₀ W ((W.drewN nd).setCell ⟨g, N, none⟩ (.string (s ++ ⟨#[10]⟩))) := (pw_below_drewN (Below.refl n₀ W) nd).setCell (p := ⟨g, N, none⟩) (by show n₀ ≤ g; exact HBG.out) _
       have hvc2 := hv2.cell
       have hvf2 := hv2.frozen
       have V2 := Aside0.mk hv2
       have R2 := Aside0.mk hR2
       have B2 := Aside0.mk hb2
       clear hv2 hR2 hb2)
    | (at_builtin; refine appN rfl (.tmp 18) (.tmp 19) rfl _ n₀ _ (endL o) l A0 c0 rfl rfl R2.out (HC.out _ B2.out) (Nat.le_trans HW.out B2.out.size) (by rw [endL_len]; exact HOL.out) ?_
       intro v1 w1 hR1 hB1 hg1
       obtain ⟨A9, k9, rfl⟩ := Kd.R_slice hR1
       have hv1 := V2.out.kept hg1 (Kd.R_ne R2.out V2.out (by decide))
       have hc1 := hv1.cell
       have hf1 := hv1.frozen
       have V1 := Aside0.mk hv1
       have R1 := Aside0.mk hR1
       have L1 := Aside0.mk (B2.out.trans hB1)
       clear hv1 hR1 hB1 hg1))
  obtain ⟨x1, x2⟩ := varU_box hn V1.out R1.out
  first | go_end0 | (simp only [Exit.inBlock, Exit.then]; refine bodyPost_ret (results_none rfl _ _ _) rfl ?_) | refine bodyPost_ret (results_none rfl _ _ _) rfl ?_ | trace_state
  simp only [List.length_append] at x1 x2
  first | exact ⟨rfl, x1, L1.out.trans x2⟩ | (simp only [List.length_append]; exact ⟨trivial, x1, L1.out.trans x2⟩)

theorem unionG_len (l : List (List ByteArray)) : ∀ i, (unionG (l.take i)).length = (l.take i).flatten.length := by
  intro i
  induction i with
  | zero => simp [unionG]
  | succ i ih =>
    by_cases h : i < l.length
    · have g := List.getElem?_eq_getElem h
      rw [unionG_snoc l i _ g, unionS_len, ih, take_snoc l i _ g, List.flatten_append, List.length_append, List.flatten_singleton]
    · rw [List.take_of_length_le (by omega), ← List.take_of_length_le (l := l) (i := i) (by omega)]; exact ih
theorem flatU_pre (l : List (List ByteArray)) (i : Nat) : (l.take i).flatten.length ≤ l.flatten.length := by
  have e : l.flatten = (l.take i).flatten ++ (l.drop i).flatten := by rw [← List.flatten_append, List.take_append_drop]
  rw [e]; simp
set_option maxHeartbeats 4000000 in
set_option maxRecDepth 100000 in
theorem union48_c (w : World) (A0 : Option Addr) (c0 : Nat) (l0 : List (List ByteArray)) (hr0 : Kd.C (Kd.slice 9 Kd.string) w A0 l0.length l0) (hc0 : l0.length ≤ c0) (hlen : l0.flatten.length ≤ 1000000) (hl0 : l0.length ≤ 1000000) (hsz : ∀ x ∈ l0, ∀ s ∈ x, s.size ≤ 1000000) :
    Calls Try.prog 48 #[.slice A0 l0.length c0] w fun e w' => ∃ v, e = .returned v ∧ Kd.R Kd.string 9 w' w.heap.size (fun _ => True) v (unionG l0) ∧ Below w.heap.size w w' := by
  have R0 := Aside0.mk hr0
  have HLE := Aside0.mk hlen
  have HL0 := Aside0.mk hl0
  have HSZ := Aside0.mk hsz
  clear hr0 hc0 hlen hl0 hsz
  go_enter Try.func48, Try.ntmps48
  go_wp2
  go_loopg [10] l0.length (fun kq v10 wr => ∃ i : Nat, v10 = .int .i64 (i : Int) ∧ Aside0 (i ≤ l0.length ∧ kq = l0.length - i) ∧ Aside0 (VarU w.heap.size w.heap.size wr (unionG (l0.take i))) ∧ Aside0 (Below w.heap.size w wr) ∧ Aside0 (w.heap.size < wr.heap.size) ∧ Aside0 (∀ s ∈ unionG (l0.take i), s.size ≤ 1000000 + i))
  case atStart => exact ⟨0, rfl, ⟨Nat.zero_le _, rfl⟩, ⟨⟨_, Go.heap_alloc_new w _, Kd.R_nil _ _ _ _ _⟩⟩, ⟨below_alloc (Below.refl _ _) _⟩, ⟨by simp⟩, ⟨by simp [unionG]⟩⟩
  case round =>
    obtain ⟨i, rfl, HI, HV, HB, HZ, HS⟩ := hrel
    by_cases c4 : i < l0.length
    · have c4b0 : decide ((i : Int) < (l0.length : Int)) = true := decide_eq_true (by omega)
      have c4b1 : decide (i < l0.length) = true := decide_eq_true c4
      obtain ⟨z, g0⟩ : ∃ z, l0[i]? = some z := ⟨_, List.getElem?_eq_getElem c4⟩
      obtain ⟨ad, A1, c1, rfl, hx, hl1, hi1⟩ := C_row (Kd.C_below R0.out HB.out) i z g0
      obtain ⟨ad2, A2, c2, e2, hx2, hl2, hi2⟩ := C_row R0.out i z g0
      injection e2 with e2
      subst e2
      have hx2' := (HB.out.cell (World.block_lt_of_cell? w _ hx2)).trans hx2
      rw [hx] at hx2'
      injection hx2' with hx2'
      injection hx2' with ea en ec
      subst ea ec
      have HC1 : Aside0 (∀ W', Below w.heap.size wr W' → Kd.C Kd.string W' A1 z.length z) := ⟨fun W' hW' => Kd.C_below hi2 (HB.out.trans hW')⟩
      have HSN := Aside0.mk (unionG_snoc l0 i z g0)
      have HUL := Aside0.mk (unionG_len l0 i)
      have HOL : Aside0 ((unionG (l0.take i)).length + z.length ≤ 1000000) := ⟨by
        have h1 := flatU_pre l0 (i + 1)
        rw [take_snoc l0 i z g0] at h1
        have h2 := HLE.out
        rw [HUL.out]
        rw [List.flatten_append, List.length_append, List.flatten_singleton] at h1; omega⟩
      have HZS : Aside0 (∀ s ∈ z, s.size ≤ 1000000) := ⟨HSZ.out z (List.mem_of_getElem? g0)⟩
      have HOS : Aside0 (∀ s ∈ unionG (l0.take i), s.size ≤ 2000000) := ⟨fun s hs => by have := HS.out s hs; have := HL0.out; omega⟩
      have HW2 : Aside0 (wrap64 ((i : Int) + 1) = ((i + 1 : Nat) : Int)) := ⟨by have := HL0.out; unfold wrap64; omega⟩
      have HN1 : Aside0 (∀ s ∈ unionG (l0.take (i + 1)), s.size ≤ 1000000 + (i + 1)) := ⟨by rw [HSN.out]; exact unionS_size HS.out HZS.out (Nat.le_add_right 1000000 i)⟩
      have HCALL : Aside0 (Calls Try.prog 70 #[.slice A1 z.length c1, .pointer (some ⟨w.heap.size, 0, none⟩)] wr fun e w' => e = .returned (.tuple #[]) ∧ VarU w.heap.size w.heap.size w' (unionG (l0.take (i + 1))) ∧ Below w.heap.size wr w') := ⟨by
        rw [HSN.out]
        by_cases hc : z ≠ [] ∧ openL (unionG (l0.take i)) = true
        · have := add70_yes w.heap.size w.heap.size (Nat.le_refl _) (unionG (l0.take i)) z A1 c1 wr (by have := HZ.out; omega) HV.out HC1.out hl1 HOS.out HOL.out hc.1 hc.2
          rw [unionS, if_pos hc]; exact this
        · have := add70_no w.heap.size w.heap.size (Nat.le_refl _) (unionG (l0.take i)) z A1 c1 wr (by have := HZ.out; omega) HV.out (HC1.out _ (Below.refl _ _)) hl1 HOS.out HOL.out hc
          rw [unionS, if_neg hc]; exact this⟩
      clear hx2 hl2 hi2 hi1 g0 HOS HZS HOL HC1
      go_wp2_with (go_at_call 70; (with_reducible refine HCALL.out.mono ?_); rintro e w' ⟨rfl, hv2, hb2⟩; have n1 := Aside0.mk hv2; have n2 := Aside0.mk (HB.out.trans hb2); have n3 := Aside0.mk (Nat.lt_of_lt_of_le HZ.out hb2.size); clear hv2 hb2)
      go_roundg (l0.length - (i + 1))
      case measure => have := HI.out; omega
      case rel => exact ⟨i + 1, by first | rfl | (simp only [i64_w]; rw [HW2.out]) | (rw [HW2.out]), ⟨by omega, rfl⟩, n1, n2, n3, HN1⟩
    · have c4b0 : decide ((i : Int) < (l0.length : Int)) = false := decide_eq_false (by omega)
      have c4b1 : decide (i < l0.length) = false := decide_eq_false c4
      have HT := Aside0.mk (List.take_of_length_le (l := l0) (i := i) (by omega))
      rw [HT.out] at HV
      obtain ⟨v, hv, hR⟩ := HV.out
      have hvc := hv.cell
      have HR := Aside0.mk hR
      clear c4 hv hR
      go_wp2
      go_ret
      exact ⟨v, rfl, HR.out, HB.out⟩
def pick_union.f (k : Nat) (l0 : List (List ByteArray)) : Option (List ByteArray) := if l0.flatten.length ≤ 1000000 ∧ l0.length ≤ 1000000 ∧ ∀ x ∈ l0, ∀ s ∈ x, s.size ≤ 1000000 then some (unionG l0) else none
theorem pick_union.mono : ∀ a0 k, LeO (pick_union.f k a0) (pick_union.f (k + 1) a0) := fun _ _ => LeO.refl _
theorem pick_union.calls (k : Nat) (A0 : Option Addr) (c0 : Nat) (l0 : List (List ByteArray)) (r : List ByteArray) (w : World) (hr0 : Kd.C (Kd.slice 9 Kd.string) w A0 l0.length l0) (hc0 : l0.length ≤ c0) (h : pick_union.f k l0 = some r) :
    Calls Try.prog 48 #[.slice A0 l0.length c0] w fun e w' => ∃ v0_ : Value, e = .returned (v0_) ∧ Kd.R Kd.string 9 w' w.heap.size (fun _ => True) v0_ r ∧ Below w.heap.size w w' := by
  unfold pick_union.f at h
  split at h
  · next hb =>
    obtain rfl := Option.some.inj h
    exact union48_c w A0 c0 l0 hr0 hc0 hb.1 hb.2.1 hb.2.2
  · cases h
end Go.Proofs.Ytiaoppikdgoieaa.M
namespace Go.Proofs.Ytiaoppikdgoieaa.M
open Go.RowKit Go.Proofs.YtiaoppikdgoieaaW.PrintWords Go.Proofs.YtiaoppikdgoieaaW.PrintLast Go.Proofs.YtiaoppikdgoieaaW.PrintMore
attribute [local go_sem] max2_int min2_int max_two min_two max_three min_three max_four min_four
set_option linter.unusedVariables false
set_option linter.unusedSimpArgs false

/-! ### pick_Piece: function 21 -/
def pick_Piece.j0 : Nat → List ByteArray → List (List ByteArray) → List (List ByteArray) → Bool → Int → Bool → Option (Bool × List ByteArray × List ByteArray × (List (List ByteArray)))
  | 0, _, _, _, _, _, _ => none
  | k + 1, x0, x1, x7, x25, x116000, x116001 => if x25 = true then (if 0 ≤ (wrap64 (x116000 - 1)) then (if (wrap64 (x116000 - 1)) < (x1.length : Int) then (some (false, rd_L1 x1 (wrap64 (x116000 - 1)), ([] : List ByteArray), ([] : List (List ByteArray)))) else (none)) else (none)) else (if x116001 = true then ((pick_union.f k x7).bind fun t122 => (some (false, t122, ([] : List ByteArray), ([] : List (List ByteArray))))) else (some (true, ([] : List ByteArray), x0, x1)))
def pick_Piece.f (k : Nat) (l0 : List ByteArray) (l1 : List (List ByteArray)) (a2_0 : Int) (a2_1 : Bool) : Option (Bool × List ByteArray × List ByteArray × (List (List ByteArray))) := (content_Differing.f k l0 l1).bind fun t117 => (if (t117.length : Int) = 0 then (some (false, l0, ([] : List ByteArray), ([] : List (List ByteArray)))) else (if (t117.length : Int) = 1 then (if 0 < (t117.length : Int) then (some (false, rd_L1 t117 0, ([] : List ByteArray), ([] : List (List ByteArray)))) else (none)) else (if a2_0 ≥ 1 then (pick_Piece.j0 k l0 l1 t117 (decide (a2_0 ≤ (l1.length : Int))) a2_0 a2_1) else (pick_Piece.j0 k l0 l1 t117 false a2_0 a2_1))))
theorem pick_Piece.mono_l : ∀ k, (∀ y0 y1 y2 y3 y4 y5, LeO (pick_Piece.j0 k y0 y1 y2 y3 y4 y5) (pick_Piece.j0 (k + 1) y0 y1 y2 y3 y4 y5))
  | 0 => fun _ _ _ _ _ _ r h => by simp [pick_Piece.j0] at h
  | k + 1 => by
    have ih0 := pick_Piece.mono_l k
    · intro y0 y1 y2 y3 y4 y5
      unfold pick_Piece.j0
      repeat' first
      | (with_reducible exact ih0 _ _ _ _ _ _)
      | (with_reducible exact content_Differing.mono _ _ _)
      | (with_reducible exact pick_union.mono _ _)
      | (with_reducible exact LeO.refl _)
      | (with_reducible exact LeO.none _)
      | (with_reducible refine LeO.ite ?_ ?_)
      | (with_reducible refine LeO.bind ?_ (fun _ => ?_))
      | exact ih0 _ _ _ _ _ _
      | exact content_Differing.mono _ _ _
      | exact pick_union.mono _ _
      | exact LeO.none _
      | refine LeO.ite ?_ ?_
      | refine LeO.bind ?_ (fun _ => ?_)
theorem pick_Piece.mono : ∀ a0 a1 a2 a3 k, LeO (pick_Piece.f k a0 a1 a2 a3) (pick_Piece.f (k + 1) a0 a1 a2 a3) := by
  intro a0 a1 a2 a3 k
  have ih0 := pick_Piece.mono_l k
  unfold pick_Piece.f
  repeat' first
      | (with_reducible exact ih0 _ _ _ _ _ _)
      | (with_reducible exact content_Differing.mono _ _ _)
      | (with_reducible exact pick_union.mono _ _)
      | (with_reducible exact LeO.refl _)
      | (with_reducible exact LeO.none _)
      | (with_reducible refine LeO.ite ?_ ?_)
      | (with_reducible refine LeO.bind ?_ (fun _ => ?_))
      | exact ih0 _ _ _ _ _ _
      | exact content_Differing.mono _ _ _
      | exact pick_union.mono _ _
      | exact LeO.none _
      | refine LeO.ite ?_ ?_
      | refine LeO.bind ?_ (fun _ => ?_)
set_option maxHeartbeats 8000000 in
set_option maxRecDepth 100000 in
theorem pick_Piece.calls (k : Nat) (P0_ : Nat → Prop) (A0 : Option Addr) (c0 : Nat) (l0 : List ByteArray) (P1_ : Nat → Prop) (A1 : Option Addr) (c1 : Nat) (l1 : List (List ByteArray)) (a2_0 : Int) (a2_1 : Bool) (r1 : Bool) (r2 : List ByteArray) (r3 : List ByteArray) (r4 : List (List ByteArray)) (w : World) (hs0 : Kd.V Kd.string 9 w w.heap.size (fun k_ => P0_ k_) (.slice A0 l0.length c0) l0) (hs1 : Kd.V (Kd.slice 9 Kd.string) 22 w w.heap.size (fun k_ => P1_ k_) (.slice A1 l1.length c1) l1) (h : pick_Piece.f k l0 l1 a2_0 a2_1 = some (r1, r2, r3, r4)) :
    Calls Try.prog 21 #[.slice A0 l0.length c0, .slice A1 l1.length c1, .agg #[.int .i64 a2_0, .bool a2_1]] w fun e w' => ∃ v1_ v2_ v3_ : Value, e = .returned (.agg #[.bool r1, v1_, v2_, v3_]) ∧ Kd.V Kd.string 9 w' w.heap.size (fun k_ => ((P0_ k_ ∨ P1_ k_) ∨ w.heap.size ≤ k_)) v1_ r2 ∧ Kd.V Kd.string 9 w' w.heap.size (fun k_ => ((P0_ k_ ∨ P1_ k_) ∨ w.heap.size ≤ k_)) v2_ r3 ∧ Kd.V (Kd.slice 9 Kd.string) 22 w' w.heap.size (fun k_ => ((P0_ k_ ∨ P1_ k_) ∨ w.heap.size ≤ k_)) v3_ r4 ∧ Below w.heap.size w w' := by
  have hu30 := Try.underlying30
  have hu27 := Try.underlying27
  have HO0 := Aside0.mk (show Kd.V Kd.string 9 w w.heap.size (fun k_ => ((P0_ k_ ∨ P1_ k_) ∨ w.heap.size ≤ k_)) (.slice A0 l0.length c0) l0 from Kd.V_mono hs0 (fun k_ hk => .inl (.inl hk)))
  have HO1 := Aside0.mk (show Kd.V (Kd.slice 9 Kd.string) 22 w w.heap.size (fun k_ => ((P0_ k_ ∨ P1_ k_) ∨ w.heap.size ≤ k_)) (.slice A1 l1.length c1) l1 from Kd.V_mono hs1 (fun k_ hk => .inl (.inr hk)))
  have HB := Aside0.mk (Below.refl w.heap.size w)
  have H : ((content_Differing.f k l0 l1).bind fun t117 => (if (t117.length : Int) = 0 then (some (false, l0, ([] : List ByteArray), ([] : List (List ByteArray)))) else (if (t117.length : Int) = 1 then (if 0 < (t117.length : Int) then (some (false, rd_L1 t117 0, ([] : List ByteArray), ([] : List (List ByteArray)))) else (none)) else (if a2_0 ≥ 1 then (pick_Piece.j0 k l0 l1 t117 (decide (a2_0 ≤ (l1.length : Int))) a2_0 a2_1) else (pick_Piece.j0 k l0 l1 t117 false a2_0 a2_1))))) = some (r1, r2, r3, r4) := h
  clear h
  replace H := Option.bind_eq_some_iff.mp H
  obtain ⟨t117, A40, H⟩ := H
  replace H : (if (t117.length : Int) = 0 then (some (false, l0, ([] : List ByteArray), ([] : List (List ByteArray)))) else (if (t117.length : Int) = 1 then (if 0 < (t117.length : Int) then (some (false, rd_L1 t117 0, ([] : List ByteArray), ([] : List (List ByteArray)))) else (none)) else (if a2_0 ≥ 1 then (pick_Piece.j0 k l0 l1 t117 (decide (a2_0 ≤ (l1.length : Int))) a2_0 a2_1) else (pick_Piece.j0 k l0 l1 t117 false a2_0 a2_1)))) = some (r1, r2, r3, r4) := H
  have A4 := Aside0.mk A40
  clear A40
  by_cases c5 : (t117.length : Int) = 0
  · rw [if_pos c5] at H
    have c5b0 : ((t117.length : Int) == 0) = true := beq_iff_eq.mpr c5
    have c5b1 : ((t117.length : Int) != 0) = false := bne_eq_false_iff_eq.mpr c5
    clear c5
    simp only [Option.some.injEq, Prod.mk.injEq] at H
    obtain ⟨rfl, rfl, rfl, rfl⟩ := H
    go_enter Try.func21, Try.ntmps21
    go_wp2_with (first | ((with_reducible refine gate_dst (N := 5) rfl ?_); (try (refine gate_guard (by rfl) ?_; dsimp only)); refine box_event ?hg (N := 5) ?hd (cs := #[.int .i64 a2_0, .bool a2_1]) (t := 30) ?hr ?_; (case hd => rfl); (case hg => rfl); (case hr => first | (go_simp; done) | (go_simp; rfl)); intro gb115 hg w6 hbox hb; have n0_ := Aside0.mk (Kd.V_below (Kd.V_elderB (by (with_reducible repeat (first | apply Kd.V_alloc | apply Kd.V_drewN | apply Kd.V_drew)); exact HO0.out) gb115 (Nat.le_of_eq hg.symm)) hb); have n1_ := Aside0.mk (Kd.V_below (Kd.V_elderB (by (with_reducible repeat (first | apply Kd.V_alloc | apply Kd.V_drewN | apply Kd.V_drew)); exact HO1.out) gb115 (Nat.le_of_eq hg.symm)) hb); have n2_ := Aside0.mk (below_step (by repeat (first | (with_reducible first | exact HB.out | apply below_alloc | apply pw_below_drewN | apply below_drew1) | exact HB.out)) hb); have n3_ := Aside0.mk (hbox); have n4_ := Aside0.mk ((by rw [hg]; exact (below_size (by repeat (first | (with_reducible first | exact HB.out | apply below_alloc | apply pw_below_drewN | apply below_drew1) | exact HB.out))) : w.heap.size ≤ gb115)); have n5_ := Aside0.mk ((by rw [hg]; exact (below_size (by repeat (first | (with_reducible first | exact HB.out | apply below_alloc | apply pw_below_drewN | apply below_drew1) | exact HB.out))) : w.heap.size ≤ gb115)); clear HO0; clear HO1; clear HB; have HO0 := n0_; have HO1 := n1_; have HB := n2_; have BK115 := n3_; have GW115 := n4_; have GE115 := n5_; clear n0_ n1_ n2_ n3_ n4_ n5_; clear hb hbox hg) | ((with_reducible refine gate_dst (N := 6) rfl ?_); (try (refine gate_guard (by rfl) ?_; dsimp only)); refine box_event ?hg (N := 6) ?hd (cs := #[.bool false, .slice none 0 0, .slice none 0 0, .slice none 0 0]) (t := 27) ?hr ?_; (case hd => rfl); (case hg => rfl); (case hr => first | (go_simp; done) | (go_simp; rfl)); intro gb116 hg w7 hbox hb; have n0_ := Aside0.mk (Kd.V_below (Kd.V_elderB (by (with_reducible repeat (first | apply Kd.V_alloc | apply Kd.V_drewN | apply Kd.V_drew)); exact HO0.out) gb116 (Nat.le_of_eq hg.symm)) hb); have n1_ := Aside0.mk (Kd.V_below (Kd.V_elderB (by (with_reducible repeat (first | apply Kd.V_alloc | apply Kd.V_drewN | apply Kd.V_drew)); exact HO1.out) gb116 (Nat.le_of_eq hg.symm)) hb); have n2_ := Aside0.mk (blk_below (g := gb115) (o := .cells #[.int .i64 a2_0, .bool a2_1] 30 (0, 0)) (by (with_reducible repeat (first | refine blk_drewN ?_ _ | refine blk_drew ?_ | refine blk_alloc ?_ _)); exact BK115.out) hb); have n3_ := Aside0.mk (below_step (by repeat (first | (with_reducible first | exact HB.out | apply below_alloc | apply pw_below_drewN | apply below_drew1 | refine below_set ?_ GE115.out) | exact HB.out)) hb); have n4_ := Aside0.mk (hbox); have n5_ := Aside0.mk ((by rw [hg]; exact (below_size (by repeat (first | (with_reducible first | exact HB.out | apply below_alloc | apply pw_below_drewN | apply below_drew1 | refine below_set ?_ GE115.out) | exact HB.out))) : w.heap.size ≤ gb116)); have n6_ := Aside0.mk ((by rw [hg]; exact (below_size (by repeat (first | (with_reducible first | exact HB.out | apply below_alloc | apply pw_below_drewN | apply below_drew1 | refine below_set ?_ GE115.out) | exact HB.out))) : w.heap.size ≤ gb116)); have n7_ := Aside0.mk ((by rw [hg]; exact Nat.ne_of_lt (blk_lt (g := gb115) (o := .cells #[.int .i64 a2_0, .bool a2_1] 30 (0, 0)) (by (with_reducible repeat (first | refine blk_drewN ?_ _ | refine blk_drew ?_ | refine blk_alloc ?_ _)); exact BK115.out)) : gb115 ≠ gb116)); have n8_ := Aside0.mk ((by rw [hg]; exact Nat.ne_of_gt (blk_lt (g := gb115) (o := .cells #[.int .i64 a2_0, .bool a2_1] 30 (0, 0)) (by (with_reducible repeat (first | refine blk_drewN ?_ _ | refine blk_drew ?_ | refine blk_alloc ?_ _)); exact BK115.out)) : gb116 ≠ gb115)); clear HO0; clear HO1; clear BK115; clear HB; have HO0 := n0_; have HO1 := n1_; have BK115 := n2_; have HB := n3_; have BK116 := n4_; have GW116 := n5_; have GE116 := n6_; have NB115_116 := n7_; have NB116_115 := n8_; clear n0_ n1_ n2_ n3_ n4_ n5_ n6_ n7_ n8_; clear hb hbox hg) | ((with_reducible refine gate_callee (f := 29) rfl ?_); refine goesL_ (some 10) rfl rfl Try.func29 (by kernel_rfl) rfl #[.slice A0 l0.length c0, .slice A1 l1.length c1] rfl (by (try simp only [List.map_toArray, List.map_cons, List.map_nil]); first | done | rfl | (simp only [List.length_drop, List.length_take]; rfl)) ?_; (with_reducible refine (content_Differing.calls k _ _ l0 (fun k_ => ((((P0_ k_ ∨ P1_ k_) ∨ w.heap.size ≤ k_) ∧ k_ ≠ gb115) ∧ k_ ≠ gb116)) _ _ l1 t117 _ ?side1 ?side2 ?side3 A4.out).mono ?_); (case side1 => repeat (first | exact (Kd.V_reads' HO0.out).2.2 | (with_reducible refine Kd.C_alloc ?_ _) | (with_reducible refine Kd.C_drewN ?_ _) | (with_reducible refine Kd.C_drew ?_))); (case side2 => exact (Kd.V_reads' HO0.out).2.1); (case side3 => exact HO1.out); rintro e w8 ⟨v118, rfl, ho0, hb⟩; refine ⟨_, rfl, ?_⟩; have n0_ := Aside0.mk (Kd.V_elder' (by (with_reducible repeat (first | apply Kd.V_alloc | apply Kd.V_drewN | apply Kd.V_drew)); exact HO0.out) (Kd.N_base ho0) hb); have n1_ := Aside0.mk (Kd.V_elder' (by (with_reducible repeat (first | apply Kd.V_alloc | apply Kd.V_drewN | apply Kd.V_drew)); exact HO1.out) (Kd.N_base ho0) hb); have n2_ := Aside0.mk (Kd.N_lower (Kd.N_mono (ok' := fun k_ => ((P0_ k_ ∨ P1_ k_) ∨ w.heap.size ≤ k_) ∧ k_ ≠ gb115 ∧ k_ ≠ gb116) ho0 (fun k_ hk_ => ⟨Or.elim hk_ (fun hs_ => hs_.1.1) (fun hn_ => (.inr (Nat.le_trans (below_size (by repeat (first | (with_reducible first | exact HB.out | apply below_alloc | apply pw_below_drewN | apply below_drew1 | refine below_set ?_ GE115.out | refine below_set ?_ GE116.out) | exact HB.out))) hn_))), Or.elim hk_ (fun hs_ => hs_.1.2) (fun hn_ => (Kd.freshB (g := gb115) (o := .cells #[.int .i64 a2_0, .bool a2_1] 30 (0, 0)) (by (with_reducible repeat (first | refine blk_drewN ?_ _ | refine blk_drew ?_ | refine blk_alloc ?_ _)); exact BK115.out) k_ hn_)), Or.elim hk_ (fun hs_ => hs_.2) (fun hn_ => (Kd.freshB (g := gb116) (o := .cells #[.bool false, .slice none 0 0, .slice none 0 0, .slice none 0 0] 27 (0, 0)) (by (with_reducible repeat (first | refine blk_drewN ?_ _ | refine blk_drew ?_ | refine blk_alloc ?_ _)); exact BK116.out) k_ hn_))⟩)) (below_size (by repeat (first | (with_reducible first | exact HB.out | apply below_alloc | apply pw_below_drewN | apply below_drew1 | refine below_set ?_ GE115.out | refine below_set ?_ GE116.out) | exact HB.out)))); have n3_ := Aside0.mk (blk_below (g := gb115) (o := .cells #[.int .i64 a2_0, .bool a2_1] 30 (0, 0)) (by (with_reducible repeat (first | refine blk_drewN ?_ _ | refine blk_drew ?_ | refine blk_alloc ?_ _)); exact BK115.out) hb); have n4_ := Aside0.mk (blk_below (g := gb116) (o := .cells #[.bool false, .slice none 0 0, .slice none 0 0, .slice none 0 0] 27 (0, 0)) (by (with_reducible repeat (first | refine blk_drewN ?_ _ | refine blk_drew ?_ | refine blk_alloc ?_ _)); exact BK116.out) hb); have n5_ := Aside0.mk (below_step (by repeat (first | (with_reducible first | exact HB.out | apply below_alloc | apply pw_below_drewN | apply below_drew1 | refine below_set ?_ GE115.out | refine below_set ?_ GE116.out) | exact HB.out)) hb); clear HO0; clear HO1; clear BK115; clear BK116; clear HB; have HO0 := n0_; have HO1 := n1_; have HO119 := n2_; have BK115 := n3_; have BK116 := n4_; have HB := n5_; clear n0_ n1_ n2_ n3_ n4_ n5_; (try clear hb); (try clear hb2); (try clear hk); (try clear hi); (try clear ho0); obtain ⟨Ao9, co9, eo9⟩ := Kd.N_slice HO119.out; subst eo9; have hnb10 := NB116_115.out; have hnc10 := NB115_116.out; have hcz11_0 : w8.cell? ⟨gb116, 0, none⟩ = some (.bool false) := (blk_cell BK116.out 0).trans rfl; have hcz11_1 : w8.cell? ⟨gb116, 1, none⟩ = some (.slice none 0 0) := (blk_cell BK116.out 1).trans rfl; have hcz11_2 : w8.cell? ⟨gb116, 2, none⟩ = some (.slice none 0 0) := (blk_cell BK116.out 2).trans rfl; have hcz11_3 : w8.cell? ⟨gb116, 3, none⟩ = some (.slice none 0 0) := (blk_cell BK116.out 3).trans rfl; have hfz11_0 := blk_frozen BK116.out 0; have hfz11_1 := blk_frozen BK116.out 1; have hfz11_2 := blk_frozen BK116.out 2; have hfz11_3 := blk_frozen BK116.out 3))
    refine bodyPost_ret (results_cell_row rfl _ _ gb116 27 #[.bool false, .slice A0 l0.length c0, .slice none 0 0, .slice none 0 0] (0, 0) _ rfl (by (with_reducible repeat (first | refine blk_drewN ?_ _ | refine blk_drew ?_ | refine blk_alloc ?_ _)); refine blk_put (cs := #[.bool false, .slice A0 l0.length c0, .slice none 0 0, .slice none 0 0]) ?_ 3 _ rfl; (with_reducible repeat (first | refine blk_drewN ?_ _ | refine blk_drew ?_ | refine blk_alloc ?_ _)); refine blk_put (cs := #[.bool false, .slice A0 l0.length c0, .slice none 0 0, .slice none 0 0]) ?_ 2 _ rfl; (with_reducible repeat (first | refine blk_drewN ?_ _ | refine blk_drew ?_ | refine blk_alloc ?_ _)); refine blk_put (cs := #[.bool false, .slice none 0 0, .slice none 0 0, .slice none 0 0]) ?_ 1 _ rfl; (with_reducible repeat (first | refine blk_drewN ?_ _ | refine blk_drew ?_ | refine blk_alloc ?_ _)); refine blk_put (cs := #[.bool false, .slice none 0 0, .slice none 0 0, .slice none 0 0]) ?_ 0 _ rfl; (with_reducible repeat (first | refine blk_drewN ?_ _ | refine blk_drew ?_ | refine blk_alloc ?_ _)); exact BK116.out) Try.underlying27 rfl (by kernel_rfl)) rfl ?_
    exact ⟨_, _, _, by first | rfl | (simp [errW_none, errW_some] <;> rfl) | (simp [*, errW_none, errW_some] <;> rfl), by (with_reducible repeat (first | apply Kd.V_alloc | apply Kd.V_drewN | apply Kd.V_drew)); exact Kd.V_mono (Kd.V_far (p := ⟨gb116, 3, none⟩) (Kd.V_far (p := ⟨gb116, 2, none⟩) (Kd.V_far (p := ⟨gb116, 1, none⟩) (Kd.V_far (p := ⟨gb116, 0, none⟩) (Kd.V_mono HO0.out (fun k_ hk => (⟨hk, hk.1.2⟩ : _ ∧ k_ ≠ gb116))) (fun _ hk => hk.2) (.bool false)) (fun _ hk => hk.2) (.slice A0 l0.length c0)) (fun _ hk => hk.2) (.slice none 0 0)) (fun _ hk => hk.2) (.slice none 0 0)) (fun _ hk => hk.1.1.1.1), Kd.V_nil _ _ _ _ _, Kd.V_nil _ _ _ _ _, by repeat (first | (with_reducible first | exact HB.out | apply below_alloc | apply pw_below_drewN | apply below_drew1 | refine below_set ?_ GE115.out | refine below_set ?_ GE116.out) | exact HB.out)⟩
  · rw [if_neg c5] at H
    have c5b0 : ((t117.length : Int) == 0) = false := beq_eq_false_iff_ne.mpr c5
    have c5b1 : ((t117.length : Int) != 0) = true := bne_iff_ne.mpr c5
    have c5b2 : ¬ (t117 = []) := fun h_ => c5 (by rw [h_]; rfl)
    by_cases c12 : (t117.length : Int) = 1
    · rw [if_pos c12] at H
      have c12b0 : ((t117.length : Int) == 1) = true := beq_iff_eq.mpr c12
      have c12b1 : ((t117.length : Int) != 1) = false := bne_eq_false_iff_eq.mpr c12
      clear c12
      by_cases c13 : 0 < (t117.length : Int)
      · rw [if_pos c13] at H
        have c13b0 : decide (0 < (t117.length : Int)) = true := decide_eq_true c13
        have c13b1 : decide (0 < t117.length) = true := decide_eq_true (by omega)
        clear c13
        simp only [Option.some.injEq, Prod.mk.injEq] at H
        obtain ⟨rfl, rfl, rfl, rfl⟩ := H
        go_enter Try.func21, Try.ntmps21
        go_wp2_with (first | ((with_reducible refine gate_dst (N := 5) rfl ?_); (try (refine gate_guard (by rfl) ?_; dsimp only)); refine box_event ?hg (N := 5) ?hd (cs := #[.int .i64 a2_0, .bool a2_1]) (t := 30) ?hr ?_; (case hd => rfl); (case hg => rfl); (case hr => first | (go_simp; done) | (go_simp; rfl)); intro gb115 hg w14 hbox hb; have n0_ := Aside0.mk (Kd.V_below (Kd.V_elderB (by (with_reducible repeat (first | apply Kd.V_alloc | apply Kd.V_drewN | apply Kd.V_drew)); exact HO0.out) gb115 (Nat.le_of_eq hg.symm)) hb); have n1_ := Aside0.mk (Kd.V_below (Kd.V_elderB (by (with_reducible repeat (first | apply Kd.V_alloc | apply Kd.V_drewN | apply Kd.V_drew)); exact HO1.out) gb115 (Nat.le_of_eq hg.symm)) hb); have n2_ := Aside0.mk (below_step (by repeat (first | (with_reducible first | exact HB.out | apply below_alloc | apply pw_below_drewN | apply below_drew1) | exact HB.out)) hb); have n3_ := Aside0.mk (hbox); have n4_ := Aside0.mk ((by rw [hg]; exact (below_size (by repeat (first | (with_reducible first | exact HB.out | apply below_alloc | apply pw_below_drewN | apply below_drew1) | exact HB.out))) : w.heap.size ≤ gb115)); have n5_ := Aside0.mk ((by rw [hg]; exact (below_size (by repeat (first | (with_reducible first | exact HB.out | apply below_alloc | apply pw_below_drewN | apply below_drew1) | exact HB.out))) : w.heap.size ≤ gb115)); clear HO0; clear HO1; clear HB; have HO0 := n0_; have HO1 := n1_; have HB := n2_; have BK115 := n3_; have GW115 := n4_; have GE115 := n5_; clear n0_ n1_ n2_ n3_ n4_ n5_; clear hb hbox hg) | ((with_reducible refine gate_dst (N := 6) rfl ?_); (try (refine gate_guard (by rfl) ?_; dsimp only)); refine box_event ?hg (N := 6) ?hd (cs := #[.bool false, .slice none 0 0, .slice none 0 0, .slice none 0 0]) (t := 27) ?hr ?_; (case hd => rfl); (case hg => rfl); (case hr => first | (go_simp; done) | (go_simp; rfl)); intro gb116 hg w15 hbox hb; have n0_ := Aside0.mk (Kd.V_below (Kd.V_elderB (by (with_reducible repeat (first | apply Kd.V_alloc | apply Kd.V_drewN | apply Kd.V_drew)); exact HO0.out) gb116 (Nat.le_of_eq hg.symm)) hb); have n1_ := Aside0.mk (Kd.V_below (Kd.V_elderB (by (with_reducible repeat (first | apply Kd.V_alloc | apply Kd.V_drewN | apply Kd.V_drew)); exact HO1.out) gb116 (Nat.le_of_eq hg.symm)) hb); have n2_ := Aside0.mk (blk_below (g := gb115) (o := .cells #[.int .i64 a2_0, .bool a2_1] 30 (0, 0)) (by (with_reducible repeat (first | refine blk_drewN ?_ _ | refine blk_drew ?_ | refine blk_alloc ?_ _)); exact BK115.out) hb); have n3_ := Aside0.mk (below_step (by repeat (first | (with_reducible first | exact HB.out | apply below_alloc | apply pw_below_drewN | apply below_drew1 | refine below_set ?_ GE115.out) | exact HB.out)) hb); have n4_ := Aside0.mk (hbox); have n5_ := Aside0.mk ((by rw [hg]; exact (below_size (by repeat (first | (with_reducible first | exact HB.out | apply below_alloc | apply pw_below_drewN | apply below_drew1 | refine below_set ?_ GE115.out) | exact HB.out))) : w.heap.size ≤ gb116)); have n6_ := Aside0.mk ((by rw [hg]; exact (below_size (by repeat (first | (with_reducible first | exact HB.out | apply below_alloc | apply pw_below_drewN | apply below_drew1 | refine below_set ?_ GE115.out) | exact HB.out))) : w.heap.size ≤ gb116)); have n7_ := Aside0.mk ((by rw [hg]; exact Nat.ne_of_lt (blk_lt (g := gb115) (o := .cells #[.int .i64 a2_0, .bool a2_1] 30 (0, 0)) (by (with_reducible repeat (first | refine blk_drewN ?_ _ | refine blk_drew ?_ | refine blk_alloc ?_ _)); exact BK115.out)) : gb115 ≠ gb116)); have n8_ := Aside0.mk ((by rw [hg]; exact Nat.ne_of_gt (blk_lt (g := gb115) (o := .cells #[.int .i64 a2_0, .bool a2_1] 30 (0, 0)) (by (with_reducible repeat (first | refine blk_drewN ?_ _ | refine blk_drew ?_ | refine blk_alloc ?_ _)); exact BK115.out)) : gb116 ≠ gb115)); clear HO0; clear HO1; clear BK115; clear HB; have HO0 := n0_; have HO1 := n1_; have BK115 := n2_; have HB := n3_; have BK116 := n4_; have GW116 := n5_; have GE116 := n6_; have NB115_116 := n7_; have NB116_115 := n8_; clear n0_ n1_ n2_ n3_ n4_ n5_ n6_ n7_ n8_; clear hb hbox hg) | ((with_reducible refine gate_callee (f := 29) rfl ?_); refine goesL_ (some 10) rfl rfl Try.func29 (by kernel_rfl) rfl #[.slice A0 l0.length c0, .slice A1 l1.length c1] rfl (by (try simp only [List.map_toArray, List.map_cons, List.map_nil]); first | done | rfl | (simp only [List.length_drop, List.length_take]; rfl)) ?_; (with_reducible refine (content_Differing.calls k _ _ l0 (fun k_ => ((((P0_ k_ ∨ P1_ k_) ∨ w.heap.size ≤ k_) ∧ k_ ≠ gb115) ∧ k_ ≠ gb116)) _ _ l1 t117 _ ?side1 ?side2 ?side3 A4.out).mono ?_); (case side1 => repeat (first | exact (Kd.V_reads' HO0.out).2.2 | (with_reducible refine Kd.C_alloc ?_ _) | (with_reducible refine Kd.C_drewN ?_ _) | (with_reducible refine Kd.C_drew ?_))); (case side2 => exact (Kd.V_reads' HO0.out).2.1); (case side3 => exact HO1.out); rintro e w16 ⟨v118, rfl, ho0, hb⟩; refine ⟨_, rfl, ?_⟩; have n0_ := Aside0.mk (Kd.V_elder' (by (with_reducible repeat (first | apply Kd.V_alloc | apply Kd.V_drewN | apply Kd.V_drew)); exact HO0.out) (Kd.N_base ho0) hb); have n1_ := Aside0.mk (Kd.V_elder' (by (with_reducible repeat (first | apply Kd.V_alloc | apply Kd.V_drewN | apply Kd.V_drew)); exact HO1.out) (Kd.N_base ho0) hb); have n2_ := Aside0.mk (Kd.N_lower (Kd.N_mono (ok' := fun k_ => ((P0_ k_ ∨ P1_ k_) ∨ w.heap.size ≤ k_) ∧ k_ ≠ gb115 ∧ k_ ≠ gb116) ho0 (fun k_ hk_ => ⟨Or.elim hk_ (fun hs_ => hs_.1.1) (fun hn_ => (.inr (Nat.le_trans (below_size (by repeat (first | (with_reducible first | exact HB.out | apply below_alloc | apply pw_below_drewN | apply below_drew1 | refine below_set ?_ GE115.out | refine below_set ?_ GE116.out) | exact HB.out))) hn_))), Or.elim hk_ (fun hs_ => hs_.1.2) (fun hn_ => (Kd.freshB (g := gb115) (o := .cells #[.int .i64 a2_0, .bool a2_1] 30 (0, 0)) (by (with_reducible repeat (first | refine blk_drewN ?_ _ | refine blk_drew ?_ | refine blk_alloc ?_ _)); exact BK115.out) k_ hn_)), Or.elim hk_ (fun hs_ => hs_.2) (fun hn_ => (Kd.freshB (g := gb116) (o := .cells #[.bool false, .slice none 0 0, .slice none 0 0, .slice none 0 0] 27 (0, 0)) (by (with_reducible repeat (first | refine blk_drewN ?_ _ | refine blk_drew ?_ | refine blk_alloc ?_ _)); exact BK116.out) k_ hn_))⟩)) (below_size (by repeat (first | (with_reducible first | exact HB.out | apply below_alloc | apply pw_below_drewN | apply below_drew1 | refine below_set ?_ GE115.out | refine below_set ?_ GE116.out) | exact HB.out)))); have n3_ := Aside0.mk (blk_below (g := gb115) (o := .cells #[.int .i64 a2_0, .bool a2_1] 30 (0, 0)) (by (with_reducible repeat (first | refine blk_drewN ?_ _ | refine blk_drew ?_ | refine blk_alloc ?_ _)); exact BK115.out) hb); have n4_ := Aside0.mk (blk_below (g := gb116) (o := .cells #[.bool false, .slice none 0 0, .slice none 0 0, .slice none 0 0] 27 (0, 0)) (by (with_reducible repeat (first | refine blk_drewN ?_ _ | refine blk_drew ?_ | refine blk_alloc ?_ _)); exact BK116.out) hb); have n5_ := Aside0.mk (below_step (by repeat (first | (with_reducible first | exact HB.out | apply below_alloc | apply pw_below_drewN | apply below_drew1 | refine below_set ?_ GE115.out | refine below_set ?_ GE116.out) | exact HB.out)) hb); clear HO0; clear HO1; clear BK115; clear BK116; clear HB; have HO0 := n0_; have HO1 := n1_; have HO119 := n2_; have BK115 := n3_; have BK116 := n4_; have HB := n5_; clear n0_ n1_ n2_ n3_ n4_ n5_; (try clear hb); (try clear hb2); (try clear hk); (try clear hi); (try clear ho0); obtain ⟨Ao17, co17, eo17⟩ := Kd.N_slice HO119.out; subst eo17; have p120 : 0 ≤ (0 : Int) := (by omega); have q120 : 0 < (t117.length : Int) := of_decide_eq_true (by first | (with_reducible assumption) | assumption); obtain ⟨ad120, A120_0, c120_0, e120, hx120_0, hl120_0, hi120_0⟩ := at_L1 (Kd.N_reads' HO119.out).2.2 0 p120 q120; cases e120; obtain ⟨ce120, hce120, hMe120, hcc120⟩ := Kd.N_get HO119.out [] 0 p120 (by first | exact q120 | exact of_decide_eq_true (by first | (with_reducible assumption) | assumption) | (have e_ := (Kd.N_reads' HO119.out).1; omega)); obtain ⟨ua120_0, uc120_0, rfl, ul120_0, ge120_0⟩ := Kd.FK_slice_open hMe120; have hv120_0 := hcc120 0 _ rfl; rw [Nat.add_zero, show ((Kd.slice 9 Kd.string)).sz = 1 from rfl, Nat.mul_one] at hv120_0; replace hv120_0 := Option.some.inj (hv120_0.symm.trans hx120_0); injection hv120_0 with hva_ hvn_ hvc_; rw [hva_] at ge120_0; rw [hvc_] at ul120_0; have HL120_0 := Aside0.mk (show Kd.V Kd.string 9 _ w.heap.size _ _ (rd_L1 t117 0) from Kd.V_mk ul120_0 ge120_0); clear hva_ hvn_ hvc_ ge120_0 ul120_0; clear hcc120 hce120; have qi120 : (0 < t117.length) = True := eq_true (by omega); (try rw [show ((0 : Int)).toNat = 0 from rfl] at hx120_0); (try rw [Addr.add_zero'] at hx120_0); have HR120_0 := Aside0.mk hi120_0; have HC120_0 := Aside0.mk hl120_0; clear hi120_0 hl120_0; replace p120 := eq_true p120; replace q120 := eq_true q120; have hnb18 := NB116_115.out; have hnc18 := NB115_116.out; have hcz19_0 : w16.cell? ⟨gb116, 0, none⟩ = some (.bool false) := (blk_cell BK116.out 0).trans rfl; have hcz19_1 : w16.cell? ⟨gb116, 1, none⟩ = some (.slice none 0 0) := (blk_cell BK116.out 1).trans rfl; have hcz19_2 : w16.cell? ⟨gb116, 2, none⟩ = some (.slice none 0 0) := (blk_cell BK116.out 2).trans rfl; have hcz19_3 : w16.cell? ⟨gb116, 3, none⟩ = some (.slice none 0 0) := (blk_cell BK116.out 3).trans rfl; have hfz19_0 := blk_frozen BK116.out 0; have hfz19_1 := blk_frozen BK116.out 1; have hfz19_2 := blk_frozen BK116.out 2; have hfz19_3 := blk_frozen BK116.out 3))
        refine bodyPost_ret (results_cell_row rfl _ _ gb116 27 #[.bool false, .slice A120_0 (rd_L1 t117 0).length c120_0, .slice none 0 0, .slice none 0 0] (0, 0) _ rfl (by (with_reducible repeat (first | refine blk_drewN ?_ _ | refine blk_drew ?_ | refine blk_alloc ?_ _)); refine blk_put (cs := #[.bool false, .slice A120_0 (rd_L1 t117 0).length c120_0, .slice none 0 0, .slice none 0 0]) ?_ 3 _ rfl; (with_reducible repeat (first | refine blk_drewN ?_ _ | refine blk_drew ?_ | refine blk_alloc ?_ _)); refine blk_put (cs := #[.bool false, .slice A120_0 (rd_L1 t117 0).length c120_0, .slice none 0 0, .slice none 0 0]) ?_ 2 _ rfl; (with_reducible repeat (first | refine blk_drewN ?_ _ | refine blk_drew ?_ | refine blk_alloc ?_ _)); refine blk_put (cs := #[.bool false, .slice none 0 0, .slice none 0 0, .slice none 0 0]) ?_ 1 _ rfl; (with_reducible repeat (first | refine blk_drewN ?_ _ | refine blk_drew ?_ | refine blk_alloc ?_ _)); refine blk_put (cs := #[.bool false, .slice none 0 0, .slice none 0 0, .slice none 0 0]) ?_ 0 _ rfl; (with_reducible repeat (first | refine blk_drewN ?_ _ | refine blk_drew ?_ | refine blk_alloc ?_ _)); exact BK116.out) Try.underlying27 rfl (by kernel_rfl)) rfl ?_
        exact ⟨_, _, _, by first | rfl | (simp [errW_none, errW_some] <;> rfl) | (simp [*, errW_none, errW_some] <;> rfl), by (with_reducible repeat (first | apply Kd.V_alloc | apply Kd.V_drewN | apply Kd.V_drew)); exact Kd.V_mono (Kd.V_far (p := ⟨gb116, 3, none⟩) (Kd.V_far (p := ⟨gb116, 2, none⟩) (Kd.V_far (p := ⟨gb116, 1, none⟩) (Kd.V_far (p := ⟨gb116, 0, none⟩) (Kd.V_mono HL120_0.out (fun k_ hk => (⟨hk, hk.1.2.2⟩ : _ ∧ k_ ≠ gb116))) (fun _ hk => hk.2) (.bool false)) (fun _ hk => hk.2) (.slice A120_0 (rd_L1 t117 0).length c120_0)) (fun _ hk => hk.2) (.slice none 0 0)) (fun _ hk => hk.2) (.slice none 0 0)) (fun _ hk => hk.1.1.1), Kd.V_nil _ _ _ _ _, Kd.V_nil _ _ _ _ _, by repeat (first | (with_reducible first | exact HB.out | apply below_alloc | apply pw_below_drewN | apply below_drew1 | refine below_set ?_ GE115.out | refine below_set ?_ GE116.out) | exact HB.out)⟩
      · rw [if_neg c13] at H
        exact absurd H (by simp)
    · rw [if_neg c12] at H
      have c12b0 : ((t117.length : Int) == 1) = false := beq_eq_false_iff_ne.mpr c12
      have c12b1 : ((t117.length : Int) != 1) = true := bne_iff_ne.mpr c12
      have HC20 := Aside0.mk H
      clear H
      go_enter Try.func21, Try.ntmps21
      go_upto_region 6 with (first | ((with_reducible refine gate_dst (N := 5) rfl ?_); (try (refine gate_guard (by rfl) ?_; dsimp only)); refine box_event ?hg (N := 5) ?hd (cs := #[.int .i64 a2_0, .bool a2_1]) (t := 30) ?hr ?_; (case hd => rfl); (case hg => rfl); (case hr => first | (go_simp; done) | (go_simp; rfl)); intro gb115 hg w21 hbox hb; have n0_ := Aside0.mk (Kd.V_below (Kd.V_elderB (by (with_reducible repeat (first | apply Kd.V_alloc | apply Kd.V_drewN | apply Kd.V_drew)); exact HO0.out) gb115 (Nat.le_of_eq hg.symm)) hb); have n1_ := Aside0.mk (Kd.V_below (Kd.V_elderB (by (with_reducible repeat (first | apply Kd.V_alloc | apply Kd.V_drewN | apply Kd.V_drew)); exact HO1.out) gb115 (Nat.le_of_eq hg.symm)) hb); have n2_ := Aside0.mk (below_step (by repeat (first | (with_reducible first | exact HB.out | apply below_alloc | apply pw_below_drewN | apply below_drew1) | exact HB.out)) hb); have n3_ := Aside0.mk (hbox); have n4_ := Aside0.mk ((by rw [hg]; exact (below_size (by repeat (first | (with_reducible first | exact HB.out | apply below_alloc | apply pw_below_drewN | apply below_drew1) | exact HB.out))) : w.heap.size ≤ gb115)); have n5_ := Aside0.mk ((by rw [hg]; exact (below_size (by repeat (first | (with_reducible first | exact HB.out | apply below_alloc | apply pw_below_drewN | apply below_drew1) | exact HB.out))) : w.heap.size ≤ gb115)); clear HO0; clear HO1; clear HB; have HO0 := n0_; have HO1 := n1_; have HB := n2_; have BK115 := n3_; have GW115 := n4_; have GE115 := n5_; clear n0_ n1_ n2_ n3_ n4_ n5_; clear hb hbox hg) | ((with_reducible refine gate_dst (N := 6) rfl ?_); (try (refine gate_guard (by rfl) ?_; dsimp only)); refine box_event ?hg (N := 6) ?hd (cs := #[.bool false, .slice none 0 0, .slice none 0 0, .slice none 0 0]) (t := 27) ?hr ?_; (case hd => rfl); (case hg => rfl); (case hr => first | (go_simp; done) | (go_simp; rfl)); intro gb116 hg w22 hbox hb; have n0_ := Aside0.mk (Kd.V_below (Kd.V_elderB (by (with_reducible repeat (first | apply Kd.V_alloc | apply Kd.V_drewN | apply Kd.V_drew)); exact HO0.out) gb116 (Nat.le_of_eq hg.symm)) hb); have n1_ := Aside0.mk (Kd.V_below (Kd.V_elderB (by (with_reducible repeat (first | apply Kd.V_alloc | apply Kd.V_drewN | apply Kd.V_drew)); exact HO1.out) gb116 (Nat.le_of_eq hg.symm)) hb); have n2_ := Aside0.mk (blk_below (g := gb115) (o := .cells #[.int .i64 a2_0, .bool a2_1] 30 (0, 0)) (by (with_reducible repeat (first | refine blk_drewN ?_ _ | refine blk_drew ?_ | refine blk_alloc ?_ _)); exact BK115.out) hb); have n3_ := Aside0.mk (below_step (by repeat (first | (with_reducible first | exact HB.out | apply below_alloc | apply pw_below_drewN | apply below_drew1 | refine below_set ?_ GE115.out) | exact HB.out)) hb); have n4_ := Aside0.mk (hbox); have n5_ := Aside0.mk ((by rw [hg]; exact (below_size (by repeat (first | (with_reducible first | exact HB.out | apply below_alloc | apply pw_below_drewN | apply below_drew1 | refine below_set ?_ GE115.out) | exact HB.out))) : w.heap.size ≤ gb116)); have n6_ := Aside0.mk ((by rw [hg]; exact (below_size (by repeat (first | (with_reducible first | exact HB.out | apply below_alloc | apply pw_below_drewN | apply below_drew1 | refine below_set ?_ GE115.out) | exact HB.out))) : w.heap.size ≤ gb116)); have n7_ := Aside0.mk ((by rw [hg]; exact Nat.ne_of_lt (blk_lt (g := gb115) (o := .cells #[.int .i64 a2_0, .bool a2_1] 30 (0, 0)) (by (with_reducible repeat (first | refine blk_drewN ?_ _ | refine blk_drew ?_ | refine blk_alloc ?_ _)); exact BK115.out)) : gb115 ≠ gb116)); have n8_ := Aside0.mk ((by rw [hg]; exact Nat.ne_of_gt (blk_lt (g := gb115) (o := .cells #[.int .i64 a2_0, .bool a2_1] 30 (0, 0)) (by (with_reducible repeat (first | refine blk_drewN ?_ _ | refine blk_drew ?_ | refine blk_alloc ?_ _)); exact BK115.out)) : gb116 ≠ gb115)); clear HO0; clear HO1; clear BK115; clear HB; have HO0 := n0_; have HO1 := n1_; have BK115 := n2_; have HB := n3_; have BK116 := n4_; have GW116 := n5_; have GE116 := n6_; have NB115_116 := n7_; have NB116_115 := n8_; clear n0_ n1_ n2_ n3_ n4_ n5_ n6_ n7_ n8_; clear hb hbox hg) | ((with_reducible refine gate_callee (f := 29) rfl ?_); refine goesL_ (some 10) rfl rfl Try.func29 (by kernel_rfl) rfl #[.slice A0 l0.length c0, .slice A1 l1.length c1] rfl (by (try simp only [List.map_toArray, List.map_cons, List.map_nil]); first | done | rfl | (simp only [List.length_drop, List.length_take]; rfl)) ?_; (with_reducible refine (content_Differing.calls k _ _ l0 (fun k_ => ((((P0_ k_ ∨ P1_ k_) ∨ w.heap.size ≤ k_) ∧ k_ ≠ gb115) ∧ k_ ≠ gb116)) _ _ l1 t117 _ ?side1 ?side2 ?side3 A4.out).mono ?_); (case side1 => repeat (first | exact (Kd.V_reads' HO0.out).2.2 | (with_reducible refine Kd.C_alloc ?_ _) | (with_reducible refine Kd.C_drewN ?_ _) | (with_reducible refine Kd.C_drew ?_))); (case side2 => exact (Kd.V_reads' HO0.out).2.1); (case side3 => exact HO1.out); rintro e w23 ⟨v118, rfl, ho0, hb⟩; refine ⟨_, rfl, ?_⟩; have n0_ := Aside0.mk (Kd.V_elder' (by (with_reducible repeat (first | apply Kd.V_alloc | apply Kd.V_drewN | apply Kd.V_drew)); exact HO0.out) (Kd.N_base ho0) hb); have n1_ := Aside0.mk (Kd.V_elder' (by (with_reducible repeat (first | apply Kd.V_alloc | apply Kd.V_drewN | apply Kd.V_drew)); exact HO1.out) (Kd.N_base ho0) hb); have n2_ := Aside0.mk (Kd.N_lower (Kd.N_mono (ok' := fun k_ => ((P0_ k_ ∨ P1_ k_) ∨ w.heap.size ≤ k_) ∧ k_ ≠ gb115 ∧ k_ ≠ gb116) ho0 (fun k_ hk_ => ⟨Or.elim hk_ (fun hs_ => hs_.1.1) (fun hn_ => (.inr (Nat.le_trans (below_size (by repeat (first | (with_reducible first | exact HB.out | apply below_alloc | apply pw_below_drewN | apply below_drew1 | refine below_set ?_ GE115.out | refine below_set ?_ GE116.out) | exact HB.out))) hn_))), Or.elim hk_ (fun hs_ => hs_.1.2) (fun hn_ => (Kd.freshB (g := gb115) (o := .cells #[.int .i64 a2_0, .bool a2_1] 30 (0, 0)) (by (with_reducible repeat (first | refine blk_drewN ?_ _ | refine blk_drew ?_ | refine blk_alloc ?_ _)); exact BK115.out) k_ hn_)), Or.elim hk_ (fun hs_ => hs_.2) (fun hn_ => (Kd.freshB (g := gb116) (o := .cells #[.bool false, .slice none 0 0, .slice none 0 0, .slice none 0 0] 27 (0, 0)) (by (with_reducible repeat (first | refine blk_drewN ?_ _ | refine blk_drew ?_ | refine blk_alloc ?_ _)); exact BK116.out) k_ hn_))⟩)) (below_size (by repeat (first | (with_reducible first | exact HB.out | apply below_alloc | apply pw_below_drewN | apply below_drew1 | refine below_set ?_ GE115.out | refine below_set ?_ GE116.out) | exact HB.out)))); have n3_ := Aside0.mk (blk_below (g := gb115) (o := .cells #[.int .i64 a2_0, .bool a2_1] 30 (0, 0)) (by (with_reducible repeat (first | refine blk_drewN ?_ _ | refine blk_drew ?_ | refine blk_alloc ?_ _)); exact BK115.out) hb); have n4_ := Aside0.mk (blk_below (g := gb116) (o := .cells #[.bool false, .slice none 0 0, .slice none 0 0, .slice none 0 0] 27 (0, 0)) (by (with_reducible repeat (first | refine blk_drewN ?_ _ | refine blk_drew ?_ | refine blk_alloc ?_ _)); exact BK116.out) hb); have n5_ := Aside0.mk (below_step (by repeat (first | (with_reducible first | exact HB.out | apply below_alloc | apply pw_below_drewN | apply below_drew1 | refine below_set ?_ GE115.out | refine below_set ?_ GE116.out) | exact HB.out)) hb); clear HO0; clear HO1; clear BK115; clear BK116; clear HB; have HO0 := n0_; have HO1 := n1_; have HO119 := n2_; have BK115 := n3_; have BK116 := n4_; have HB := n5_; clear n0_ n1_ n2_ n3_ n4_ n5_; (try clear hb); (try clear hb2); (try clear hk); (try clear hi); (try clear ho0); obtain ⟨Ao24, co24, eo24⟩ := Kd.N_slice HO119.out; subst eo24))
      (try simp only [Act.put, List.setIfInBounds_toArray, List.set_cons_zero, List.set_cons_succ])
      go_cut [25] (fun v25 wc => ∃ (kq : Nat) (x25_19 : Bool), v25 = .bool x25_19 ∧ Aside0 (pick_Piece.j0 kq l0 l1 t117 x25_19 a2_0 a2_1 = some (r1, r2, r3, r4)) ∧ Aside0 (kq ≤ k) ∧ Aside0 (Kd.V Kd.string 9 wc w.heap.size (fun k_ => ((P0_ k_ ∨ P1_ k_) ∨ w.heap.size ≤ k_) ∧ some k_ ≠ ((.slice Ao24 t117.length co24) : Value).ownBlock ∧ k_ ≠ gb115 ∧ k_ ≠ gb116) (.slice A0 l0.length c0) l0) ∧ Aside0 (Kd.V (Kd.slice 9 Kd.string) 22 wc w.heap.size (fun k_ => ((P0_ k_ ∨ P1_ k_) ∨ w.heap.size ≤ k_) ∧ some k_ ≠ ((.slice Ao24 t117.length co24) : Value).ownBlock ∧ k_ ≠ gb115 ∧ k_ ≠ gb116) (.slice A1 l1.length c1) l1) ∧ Aside0 (Kd.N (Kd.slice 9 Kd.string) 22 wc w.heap.size (fun k_ => ((P0_ k_ ∨ P1_ k_) ∨ w.heap.size ≤ k_) ∧ k_ ≠ gb115 ∧ k_ ≠ gb116) (.slice Ao24 t117.length co24) t117) ∧ Aside0 (wc.heap[gb115]? = some (.cells #[.int .i64 a2_0, .bool a2_1] 30 (0, 0))) ∧ Aside0 (wc.heap[gb116]? = some (.cells #[.bool false, (.slice none 0 0), (.slice none 0 0), (.slice none 0 0)] 27 (0, 0))) ∧ Aside0 (Below w.heap.size w wc))
      case first =>
        have H := HC20.out
        clear HC20
        by_cases c25 : a2_0 ≥ 1
        · rw [if_pos c25] at H
          have c25b0 : decide (1 ≤ a2_0) = true := decide_eq_true c25
          clear c25
          (first | rw [c25b0] | (simp only [i64_w, i32_w]; rw [c25b0]) | skip)
          have H' := Aside0.mk H
          clear H
          have hnb26 := NB115_116.out
          have hnc26 := NB116_115.out
          have hcz27_0 : w23.cell? ⟨gb115, 0, none⟩ = some (.int .i64 a2_0) := (blk_cell BK115.out 0).trans rfl
          have hcz27_1 : w23.cell? ⟨gb115, 1, none⟩ = some (.bool a2_1) := (blk_cell BK115.out 1).trans rfl
          have hfz27_0 := blk_frozen BK115.out 0
          have hfz27_1 := blk_frozen BK115.out 1
          go_wp2
          go_meet
          case rel => exact ⟨_, (decide (a2_0 ≤ (l1.length : Int))), (by first | rfl | (simp; done) | (simp [*]; done)), H', ⟨by first | omega | exact Nat.le_refl _⟩, ⟨by (with_reducible repeat (first | apply Kd.V_alloc | apply Kd.V_drewN | apply Kd.V_drew)); exact Kd.V_mono HO0.out (fun _ hk => ⟨hk.1.1.1, ⟨hk.2, ⟨hk.1.1.2, hk.1.2⟩⟩⟩)⟩, ⟨by (with_reducible repeat (first | apply Kd.V_alloc | apply Kd.V_drewN | apply Kd.V_drew)); exact Kd.V_mono HO1.out (fun _ hk => ⟨hk.1.1.1, ⟨hk.2, ⟨hk.1.1.2, hk.1.2⟩⟩⟩)⟩, ⟨by (with_reducible repeat (first | apply Kd.N_alloc | apply Kd.N_drewN | apply Kd.N_drew)); exact HO119.out⟩, ⟨by (with_reducible repeat (first | refine blk_drewN ?_ _ | refine blk_drew ?_ | refine blk_alloc ?_ _)); exact BK115.out⟩, ⟨by (with_reducible repeat (first | refine blk_drewN ?_ _ | refine blk_drew ?_ | refine blk_alloc ?_ _)); exact BK116.out⟩, ⟨by repeat (first | (with_reducible first | exact HB.out | apply below_alloc | apply pw_below_drewN | apply below_drew1 | refine below_set ?_ GE115.out | refine below_set ?_ GE116.out) | exact HB.out)⟩⟩
        · rw [if_neg c25] at H
          have c25b0 : decide (1 ≤ a2_0) = false := decide_eq_false c25
          clear c25
          (first | rw [c25b0] | (simp only [i64_w, i32_w]; rw [c25b0]) | skip)
          have H' := Aside0.mk H
          clear H
          have hnb28 := NB115_116.out
          have hnc28 := NB116_115.out
          have hcz29_0 : w23.cell? ⟨gb115, 0, none⟩ = some (.int .i64 a2_0) := (blk_cell BK115.out 0).trans rfl
          have hcz29_1 : w23.cell? ⟨gb115, 1, none⟩ = some (.bool a2_1) := (blk_cell BK115.out 1).trans rfl
          have hfz29_0 := blk_frozen BK115.out 0
          have hfz29_1 := blk_frozen BK115.out 1
          go_wp2
          go_meet
          case rel => exact ⟨_, (false), (by first | rfl | (simp; done) | (simp [*]; done)), H', ⟨by first | omega | exact Nat.le_refl _⟩, ⟨by (with_reducible repeat (first | apply Kd.V_alloc | apply Kd.V_drewN | apply Kd.V_drew)); exact Kd.V_mono HO0.out (fun _ hk => ⟨hk.1.1.1, ⟨hk.2, ⟨hk.1.1.2, hk.1.2⟩⟩⟩)⟩, ⟨by (with_reducible repeat (first | apply Kd.V_alloc | apply Kd.V_drewN | apply Kd.V_drew)); exact Kd.V_mono HO1.out (fun _ hk => ⟨hk.1.1.1, ⟨hk.2, ⟨hk.1.1.2, hk.1.2⟩⟩⟩)⟩, ⟨by (with_reducible repeat (first | apply Kd.N_alloc | apply Kd.N_drewN | apply Kd.N_drew)); exact HO119.out⟩, ⟨by (with_reducible repeat (first | refine blk_drewN ?_ _ | refine blk_drew ?_ | refine blk_alloc ?_ _)); exact BK115.out⟩, ⟨by (with_reducible repeat (first | refine blk_drewN ?_ _ | refine blk_drew ?_ | refine blk_alloc ?_ _)); exact BK116.out⟩, ⟨by repeat (first | (with_reducible first | exact HB.out | apply below_alloc | apply pw_below_drewN | apply below_drew1 | refine below_set ?_ GE115.out | refine below_set ?_ GE116.out) | exact HB.out)⟩⟩
      case rest =>
        clear HC20
        try clear c1
        try clear p1
        try clear q1
        try clear hx1
        try clear qi1
        try clear c2
        try clear p2
        try clear c5
        try clear c5b0
        try clear c5b1
        try clear c5b2
        try clear c10
        try clear c12
        try clear c12b0
        try clear c12b1
        try clear p12
        try clear q12
        try clear hx12
        try clear qi12
        try clear c13
        try clear c13b0
        try clear c13b1
        try clear c18
        try clear c21
        try clear c25
        try clear c25b0
        try clear c26
        try clear c28
        try clear c29
        try clear hcz11_0
        try clear hcz11_1
        try clear hcz11_2
        try clear hcz11_3
        try clear hcz19_0
        try clear hcz19_1
        try clear hcz19_2
        try clear hcz19_3
        try clear hcz27_0
        try clear hcz27_1
        try clear hcz29_0
        try clear hcz29_1
        try clear hfz11_0
        try clear hfz11_1
        try clear hfz11_2
        try clear hfz11_3
        try clear hfz19_0
        try clear hfz19_1
        try clear hfz19_2
        try clear hfz19_3
        try clear hfz27_0
        try clear hfz27_1
        try clear hfz29_0
        try clear hfz29_1
        try clear hx120_0
        try clear p120
        try clear q120
        obtain ⟨kq, x25_19, rfl, HA, HJ19, HO_0, HO_1, HO_7, BK115, BK116, HB⟩ := hcut
        cases kq with
        | zero => exact absurd HA.out (by simp [pick_Piece.j0])
        | succ kj19 =>
          have H := HA.out
          clear HA
          simp only [pick_Piece.j0] at H
          by_cases c30 : x25_19 = true
          · subst c30
            have H1 : (if 0 ≤ (wrap64 (a2_0 - 1)) then (if (wrap64 (a2_0 - 1)) < (l1.length : Int) then (some (false, rd_L1 l1 (wrap64 (a2_0 - 1)), ([] : List ByteArray), ([] : List (List ByteArray)))) else (none)) else (none)) = some (r1, r2, r3, r4) := by rw [if_pos rfl] at H; exact H
            clear H
            have H := H1
            clear H1
            obtain ⟨ji31, hji31⟩ : ∃ j_ : Int, (wrap64 (a2_0 - 1)) = j_ := ⟨_, rfl⟩
            replace H : (if 0 ≤ (ji31) then (if (ji31) < (l1.length : Int) then (some (false, rd_L1 l1 (ji31), ([] : List ByteArray), ([] : List (List ByteArray)))) else (none)) else (none)) = some (r1, r2, r3, r4) := by first | (rw [hji31] at H; exact H) | (simp only [hji31] at H ⊢; exact H)
            have hji31w : (IntKind.i64.wrap (a2_0 - 1)) = ji31 := (i64_w _).trans hji31
            by_cases c32 : 0 ≤ (ji31)
            · rw [if_pos c32] at H
              have c32b0 : decide (0 ≤ (ji31)) = true := decide_eq_true c32
              clear c32
              by_cases c33 : (ji31) < (l1.length : Int)
              · rw [if_pos c33] at H
                have c33b0 : decide ((ji31) < (l1.length : Int)) = true := decide_eq_true c33
                clear c33
                simp only [Option.some.injEq, Prod.mk.injEq] at H
                obtain ⟨rfl, rfl, rfl, rfl⟩ := H
                have hnb34 := NB115_116.out
                have hnc34 := NB116_115.out
                have hcz35_0 : wc.cell? ⟨gb115, 0, none⟩ = some (.int .i64 a2_0) := (blk_cell BK115.out 0).trans rfl
                have hcz35_1 : wc.cell? ⟨gb115, 1, none⟩ = some (.bool a2_1) := (blk_cell BK115.out 1).trans rfl
                have hfz35_0 := blk_frozen BK115.out 0
                have hfz35_1 := blk_frozen BK115.out 1
                have p121 : 0 ≤ ((ji31) : Int) := of_decide_eq_true (by first | (with_reducible assumption) | assumption)
                have q121 : (ji31) < (l1.length : Int) := of_decide_eq_true (by first | (with_reducible assumption) | assumption)
                obtain ⟨ad121, A121_0, c121_0, e121, hx121_0, hl121_0, hi121_0⟩ := at_L1 (Kd.V_reads' HO_1.out).2.2 (ji31) p121 q121
                cases e121
                obtain ⟨ce121, hce121, hMe121, hcc121⟩ := Kd.V_get HO_1.out [] (ji31) p121 (by first | exact q121 | exact of_decide_eq_true (by first | (with_reducible assumption) | assumption) | (have e_ := (Kd.V_reads' HO_1.out).1; omega))
                obtain ⟨ua121_0, uc121_0, rfl, ul121_0, ge121_0⟩ := Kd.FK_slice_open hMe121
                have hv121_0 := hcc121 0 _ rfl
                rw [Nat.add_zero, show ((Kd.slice 9 Kd.string)).sz = 1 from rfl, Nat.mul_one] at hv121_0
                replace hv121_0 := Option.some.inj (hv121_0.symm.trans hx121_0)
                injection hv121_0 with hva_ hvn_ hvc_
                rw [hva_] at ge121_0
                rw [hvc_] at ul121_0
                have HL121_0 := Aside0.mk (show Kd.V Kd.string 9 _ w.heap.size _ _ (rd_L1 l1 (ji31)) from Kd.V_mk ul121_0 ge121_0)
                clear hva_ hvn_ hvc_ ge121_0 ul121_0
                clear hcc121 hce121
                have HR121_0 := Aside0.mk hi121_0
                have HC121_0 := Aside0.mk hl121_0
                clear hi121_0 hl121_0
                replace p121 := eq_true p121
                replace q121 := eq_true q121
                have hcz36_0 : wc.cell? ⟨gb116, 0, none⟩ = some (.bool false) := (blk_cell BK116.out 0).trans rfl
                have hcz36_1 : wc.cell? ⟨gb116, 1, none⟩ = some (.slice none 0 0) := (blk_cell BK116.out 1).trans rfl
                have hcz36_2 : wc.cell? ⟨gb116, 2, none⟩ = some (.slice none 0 0) := (blk_cell BK116.out 2).trans rfl
                have hcz36_3 : wc.cell? ⟨gb116, 3, none⟩ = some (.slice none 0 0) := (blk_cell BK116.out 3).trans rfl
                have hfz36_0 := blk_frozen BK116.out 0
                have hfz36_1 := blk_frozen BK116.out 1
                have hfz36_2 := blk_frozen BK116.out 2
                have hfz36_3 := blk_frozen BK116.out 3
                go_wp2
                refine bodyPost_ret (results_cell_row rfl _ _ gb116 27 #[.bool false, .slice A121_0 (rd_L1 l1 (ji31)).length c121_0, .slice none 0 0, .slice none 0 0] (0, 0) _ rfl (by (with_reducible repeat (first | refine blk_drewN ?_ _ | refine blk_drew ?_ | refine blk_alloc ?_ _)); refine blk_put (cs := #[.bool false, .slice A121_0 (rd_L1 l1 (ji31)).length c121_0, .slice none 0 0, .slice none 0 0]) ?_ 3 _ rfl; (with_reducible repeat (first | refine blk_drewN ?_ _ | refine blk_drew ?_ | refine blk_alloc ?_ _)); refine blk_put (cs := #[.bool false, .slice A121_0 (rd_L1 l1 (ji31)).length c121_0, .slice none 0 0, .slice none 0 0]) ?_ 2 _ rfl; (with_reducible repeat (first | refine blk_drewN ?_ _ | refine blk_drew ?_ | refine blk_alloc ?_ _)); refine blk_put (cs := #[.bool false, .slice none 0 0, .slice none 0 0, .slice none 0 0]) ?_ 1 _ rfl; (with_reducible repeat (first | refine blk_drewN ?_ _ | refine blk_drew ?_ | refine blk_alloc ?_ _)); refine blk_put (cs := #[.bool false, .slice none 0 0, .slice none 0 0, .slice none 0 0]) ?_ 0 _ rfl; (with_reducible repeat (first | refine blk_drewN ?_ _ | refine blk_drew ?_ | refine blk_alloc ?_ _)); exact BK116.out) Try.underlying27 rfl (by kernel_rfl)) rfl ?_
                exact ⟨_, _, _, by first | rfl | (simp [errW_none, errW_some] <;> rfl) | (simp only [← hji31]; first | rfl | (simp [errW_none, errW_some] <;> rfl)) | (simp [*, errW_none, errW_some] <;> rfl), by (with_reducible repeat (first | apply Kd.V_alloc | apply Kd.V_drewN | apply Kd.V_drew)); exact Kd.V_mono (Kd.V_far (p := ⟨gb116, 3, none⟩) (Kd.V_far (p := ⟨gb116, 2, none⟩) (Kd.V_far (p := ⟨gb116, 1, none⟩) (Kd.V_far (p := ⟨gb116, 0, none⟩) (Kd.V_mono HL121_0.out (fun k_ hk => (⟨hk, hk.2.2.2⟩ : _ ∧ k_ ≠ gb116))) (fun _ hk => hk.2) (.bool false)) (fun _ hk => hk.2) (.slice A121_0 (rd_L1 l1 (ji31)).length c121_0)) (fun _ hk => hk.2) (.slice none 0 0)) (fun _ hk => hk.2) (.slice none 0 0)) (fun _ hk => hk.1.1), Kd.V_nil _ _ _ _ _, Kd.V_nil _ _ _ _ _, by repeat (first | (with_reducible first | exact HB.out | apply below_alloc | apply pw_below_drewN | apply below_drew1 | refine below_set ?_ GE115.out | refine below_set ?_ GE116.out) | exact HB.out)⟩
              · rw [if_neg c33] at H
                exact absurd H (by simp)
            · rw [if_neg c32] at H
              exact absurd H (by simp)
          · replace c30 := Bool.eq_false_iff.mpr c30
            subst c30
            have H1 : (if a2_1 = true then ((pick_union.f kj19 t117).bind fun t122 => (some (false, t122, ([] : List ByteArray), ([] : List (List ByteArray))))) else (some (true, ([] : List ByteArray), l0, l1))) = some (r1, r2, r3, r4) := by rw [if_neg (show ¬ (false = true) by decide)] at H; exact H
            clear H
            have H := H1
            clear H1
            by_cases c37 : a2_1 = true
            · subst c37
              have H1 : ((pick_union.f kj19 t117).bind fun t122 => (some (false, t122, ([] : List ByteArray), ([] : List (List ByteArray))))) = some (r1, r2, r3, r4) := by rw [if_pos rfl] at H; exact H
              clear H
              have H := H1
              clear H1
              replace H := Option.bind_eq_some_iff.mp H
              obtain ⟨t122, A380, H⟩ := H
              replace H : (some (false, t122, ([] : List ByteArray), ([] : List (List ByteArray)))) = some (r1, r2, r3, r4) := H
              have A38 := Aside0.mk A380
              clear A380
              simp only [Option.some.injEq, Prod.mk.injEq] at H
              obtain ⟨rfl, rfl, rfl, rfl⟩ := H
              have hnb39 := NB115_116.out
              have hnc39 := NB116_115.out
              have hcz40_0 : wc.cell? ⟨gb115, 0, none⟩ = some (.int .i64 a2_0) := (blk_cell BK115.out 0).trans rfl
              have hcz40_1 : wc.cell? ⟨gb115, 1, none⟩ = some (.bool true) := (blk_cell BK115.out 1).trans rfl
              have hfz40_0 := blk_frozen BK115.out 0
              have hfz40_1 := blk_frozen BK115.out 1
              go_wp2_with (first | ((with_reducible refine gate_callee (f := 48) rfl ?_); refine goesL_ (some 47) rfl rfl Try.func48 (by kernel_rfl) rfl #[.slice Ao24 t117.length co24] rfl (by (try simp only [List.map_toArray, List.map_cons, List.map_nil]); first | done | rfl | (simp only [List.length_drop, List.length_take]; rfl)) ?_; (with_reducible refine (pick_union.calls kj19 _ _ t117 t122 _ ?side1 ?side2 A38.out).mono ?_); (case side1 => repeat (first | exact (Kd.N_reads' HO_7.out).2.2 | (with_reducible refine Kd.C_alloc ?_ _) | (with_reducible refine Kd.C_drewN ?_ _) | (with_reducible refine Kd.C_drew ?_))); (case side2 => exact (Kd.N_reads' HO_7.out).2.1); rintro e w41 ⟨v123, rfl, ho0, hb⟩; refine ⟨_, rfl, ?_⟩; have n0_ := Aside0.mk (Kd.V_elder' (by (with_reducible repeat (first | apply Kd.V_alloc | apply Kd.V_drewN | apply Kd.V_drew)); exact HO_0.out) (Kd.R_base ho0) hb); have n1_ := Aside0.mk (Kd.V_elder' (by (with_reducible repeat (first | apply Kd.V_alloc | apply Kd.V_drewN | apply Kd.V_drew)); exact HO_1.out) (Kd.R_base ho0) hb); have n2_ := Aside0.mk (Kd.N_elder' (by (with_reducible repeat (first | apply Kd.N_alloc | apply Kd.N_drewN | apply Kd.N_drew)); exact HO_7.out) (Kd.R_base ho0) hb); have n3_ := Aside0.mk (Kd.R_lower (Kd.R_newM (M := fun k_ => (w.heap.size ≤ k_)) ho0 (below_size (by repeat (first | (with_reducible first | exact HB.out | apply below_alloc | apply pw_below_drewN | apply below_drew1 | refine below_set ?_ GE115.out | refine below_set ?_ GE116.out) | exact HB.out))) (fun k_ h_ => h_)) (below_size (by repeat (first | (with_reducible first | exact HB.out | apply below_alloc | apply pw_below_drewN | apply below_drew1 | refine below_set ?_ GE115.out | refine below_set ?_ GE116.out) | exact HB.out)))); have n4_ := Aside0.mk (blk_below (g := gb115) (o := .cells #[.int .i64 a2_0, .bool true] 30 (0, 0)) (by (with_reducible repeat (first | refine blk_drewN ?_ _ | refine blk_drew ?_ | refine blk_alloc ?_ _)); exact BK115.out) hb); have n5_ := Aside0.mk (blk_below (g := gb116) (o := .cells #[.bool false, .slice none 0 0, .slice none 0 0, .slice none 0 0] 27 (0, 0)) (by (with_reducible repeat (first | refine blk_drewN ?_ _ | refine blk_drew ?_ | refine blk_alloc ?_ _)); exact BK116.out) hb); have n6_ := Aside0.mk (below_step (by repeat (first | (with_reducible first | exact HB.out | apply below_alloc | apply pw_below_drewN | apply below_drew1 | refine below_set ?_ GE115.out | refine below_set ?_ GE116.out) | exact HB.out)) hb); clear HO_0; clear HO_1; clear HO_7; clear BK115; clear BK116; clear HB; have HO_0 := n0_; have HO_1 := n1_; have HO_7 := n2_; have HO124 := n3_; have BK115 := n4_; have BK116 := n5_; have HB := n6_; clear n0_ n1_ n2_ n3_ n4_ n5_ n6_; (try clear hb); (try clear hb2); (try clear hk); (try clear hi); (try clear ho0); obtain ⟨Ao42, co42, eo42⟩ := Kd.R_slice HO124.out; subst eo42; have hcz43_0 : w41.cell? ⟨gb116, 0, none⟩ = some (.bool false) := (blk_cell BK116.out 0).trans rfl; have hcz43_1 : w41.cell? ⟨gb116, 1, none⟩ = some (.slice none 0 0) := (blk_cell BK116.out 1).trans rfl; have hcz43_2 : w41.cell? ⟨gb116, 2, none⟩ = some (.slice none 0 0) := (blk_cell BK116.out 2).trans rfl; have hcz43_3 : w41.cell? ⟨gb116, 3, none⟩ = some (.slice none 0 0) := (blk_cell BK116.out 3).trans rfl; have hfz43_0 := blk_frozen BK116.out 0; have hfz43_1 := blk_frozen BK116.out 1; have hfz43_2 := blk_frozen BK116.out 2; have hfz43_3 := blk_frozen BK116.out 3))
              refine bodyPost_ret (results_cell_row rfl _ _ gb116 27 #[.bool false, .slice Ao42 t122.length co42, .slice none 0 0, .slice none 0 0] (0, 0) _ rfl (by (with_reducible repeat (first | refine blk_drewN ?_ _ | refine blk_drew ?_ | refine blk_alloc ?_ _)); refine blk_put (cs := #[.bool false, .slice Ao42 t122.length co42, .slice none 0 0, .slice none 0 0]) ?_ 3 _ rfl; (with_reducible repeat (first | refine blk_drewN ?_ _ | refine blk_drew ?_ | refine blk_alloc ?_ _)); refine blk_put (cs := #[.bool false, .slice Ao42 t122.length co42, .slice none 0 0, .slice none 0 0]) ?_ 2 _ rfl; (with_reducible repeat (first | refine blk_drewN ?_ _ | refine blk_drew ?_ | refine blk_alloc ?_ _)); refine blk_put (cs := #[.bool false, .slice none 0 0, .slice none 0 0, .slice none 0 0]) ?_ 1 _ rfl; (with_reducible repeat (first | refine blk_drewN ?_ _ | refine blk_drew ?_ | refine blk_alloc ?_ _)); refine blk_put (cs := #[.bool false, .slice none 0 0, .slice none 0 0, .slice none 0 0]) ?_ 0 _ rfl; (with_reducible repeat (first | refine blk_drewN ?_ _ | refine blk_drew ?_ | refine blk_alloc ?_ _)); exact BK116.out) Try.underlying27 rfl (by kernel_rfl)) rfl ?_
              exact ⟨_, _, _, by first | rfl | (simp [errW_none, errW_some] <;> rfl) | (simp [*, errW_none, errW_some] <;> rfl), Kd.V_mono (Kd.R_V (by (with_reducible repeat (first | apply Kd.R_alloc | apply Kd.R_drewN | apply Kd.R_drew)); exact Kd.R_mono (Kd.R_far (p := ⟨gb116, 3, none⟩) (Kd.R_far (p := ⟨gb116, 2, none⟩) (Kd.R_far (p := ⟨gb116, 1, none⟩) (Kd.R_far (p := ⟨gb116, 0, none⟩) (Kd.R_types HO124.out BK116.out (by decide)) (fun _ hk => hk.2) (.bool false)) (fun _ hk => hk.2) (.slice Ao42 t122.length co42)) (fun _ hk => hk.2) (.slice none 0 0)) (fun _ hk => hk.2) (.slice none 0 0)) (fun _ hk => hk.1.1))) (fun k_ hk => by first | exact ⟨(.inr (hk.1)), hk.2⟩ | exact (.inr (hk))), Kd.V_nil _ _ _ _ _, Kd.V_nil _ _ _ _ _, by repeat (first | (with_reducible first | exact HB.out | apply below_alloc | apply pw_below_drewN | apply below_drew1 | refine below_set ?_ GE115.out | refine below_set ?_ GE116.out) | exact HB.out)⟩
            · replace c37 := Bool.eq_false_iff.mpr c37
              subst c37
              have H1 : (some (true, ([] : List ByteArray), l0, l1)) = some (r1, r2, r3, r4) := by rw [if_neg (show ¬ (false = true) by decide)] at H; exact H
              clear H
              have H := H1
              clear H1
              simp only [Option.some.injEq, Prod.mk.injEq] at H
              obtain ⟨rfl, rfl, rfl, rfl⟩ := H
              have hnb44 := NB115_116.out
              have hnc44 := NB116_115.out
              have hcz45_0 : wc.cell? ⟨gb115, 0, none⟩ = some (.int .i64 a2_0) := (blk_cell BK115.out 0).trans rfl
              have hcz45_1 : wc.cell? ⟨gb115, 1, none⟩ = some (.bool false) := (blk_cell BK115.out 1).trans rfl
              have hfz45_0 := blk_frozen BK115.out 0
              have hfz45_1 := blk_frozen BK115.out 1
              have hcz46_0 : wc.cell? ⟨gb116, 0, none⟩ = some (.bool false) := (blk_cell BK116.out 0).trans rfl
              have hcz46_1 : wc.cell? ⟨gb116, 1, none⟩ = some (.slice none 0 0) := (blk_cell BK116.out 1).trans rfl
              have hcz46_2 : wc.cell? ⟨gb116, 2, none⟩ = some (.slice none 0 0) := (blk_cell BK116.out 2).trans rfl
              have hcz46_3 : wc.cell? ⟨gb116, 3, none⟩ = some (.slice none 0 0) := (blk_cell BK116.out 3).trans rfl
              have hfz46_0 := blk_frozen BK116.out 0
              have hfz46_1 := blk_frozen BK116.out 1
              have hfz46_2 := blk_frozen BK116.out 2
              have hfz46_3 := blk_frozen BK116.out 3
              go_wp2
              refine bodyPost_ret (results_cell_row rfl _ _ gb116 27 #[.bool true, .slice none 0 0, .slice A0 l0.length c0, .slice A1 l1.length c1] (0, 0) _ rfl (by (with_reducible repeat (first | refine blk_drewN ?_ _ | refine blk_drew ?_ | refine blk_alloc ?_ _)); refine blk_put (cs := #[.bool true, .slice none 0 0, .slice A0 l0.length c0, .slice none 0 0]) ?_ 3 _ rfl; (with_reducible repeat (first | refine blk_drewN ?_ _ | refine blk_drew ?_ | refine blk_alloc ?_ _)); refine blk_put (cs := #[.bool true, .slice none 0 0, .slice none 0 0, .slice none 0 0]) ?_ 2 _ rfl; (with_reducible repeat (first | refine blk_drewN ?_ _ | refine blk_drew ?_ | refine blk_alloc ?_ _)); refine blk_put (cs := #[.bool true, .slice none 0 0, .slice none 0 0, .slice none 0 0]) ?_ 1 _ rfl; (with_reducible repeat (first | refine blk_drewN ?_ _ | refine blk_drew ?_ | refine blk_alloc ?_ _)); refine blk_put (cs := #[.bool false, .slice none 0 0, .slice none 0 0, .slice none 0 0]) ?_ 0 _ rfl; (with_reducible repeat (first | refine blk_drewN ?_ _ | refine blk_drew ?_ | refine blk_alloc ?_ _)); exact BK116.out) Try.underlying27 rfl (by kernel_rfl)) rfl ?_
              exact ⟨_, _, _, by first | rfl | (simp [errW_none, errW_some] <;> rfl) | (simp [*, errW_none, errW_some] <;> rfl), Kd.V_nil _ _ _ _ _, by (with_reducible repeat (first | apply Kd.V_alloc | apply Kd.V_drewN | apply Kd.V_drew)); exact Kd.V_mono (Kd.V_far (p := ⟨gb116, 3, none⟩) (Kd.V_far (p := ⟨gb116, 2, none⟩) (Kd.V_far (p := ⟨gb116, 1, none⟩) (Kd.V_far (p := ⟨gb116, 0, none⟩) (Kd.V_mono HO_0.out (fun k_ hk => (⟨hk, hk.2.2.2⟩ : _ ∧ k_ ≠ gb116))) (fun _ hk => hk.2) (.bool true)) (fun _ hk => hk.2) (.slice none 0 0)) (fun _ hk => hk.2) (.slice A0 l0.length c0)) (fun _ hk => hk.2) (.slice A1 l1.length c1)) (fun _ hk => hk.1.1), by (with_reducible repeat (first | apply Kd.V_alloc | apply Kd.V_drewN | apply Kd.V_drew)); exact Kd.V_mono (Kd.V_far (p := ⟨gb116, 3, none⟩) (Kd.V_far (p := ⟨gb116, 2, none⟩) (Kd.V_far (p := ⟨gb116, 1, none⟩) (Kd.V_far (p := ⟨gb116, 0, none⟩) (Kd.V_mono HO_1.out (fun k_ hk => (⟨hk, hk.2.2.2⟩ : _ ∧ k_ ≠ gb116))) (fun _ hk => hk.2) (.bool true)) (fun _ hk => hk.2) (.slice none 0 0)) (fun _ hk => hk.2) (.slice A0 l0.length c0)) (fun _ hk => hk.2) (.slice A1 l1.length c1)) (fun _ hk => hk.1.1), by repeat (first | (with_reducible first | exact HB.out | apply below_alloc | apply pw_below_drewN | apply below_drew1 | refine below_set ?_ GE115.out | refine below_set ?_ GE116.out) | exact HB.out)⟩

end Go.Proofs.Ytiaoppikdgoieaa.M
namespace Go.Proofs.Ytiaoppikdgoieaa.M
open Go.RowKit Go.Proofs Go.Proofs.YtiaoppikdgoieaaW.PrintWords Go.Proofs.YtiaoppikdgoieaaW.PrintLast Go.Proofs.YtiaoppikdgoieaaW.PrintMore Go.Proofs.Ytiaoppikdgoieaa.Hand
set_option linter.unusedVariables false
set_option linter.unusedSimpArgs false

theorem equal52_c (a b : List ByteArray) (A0 : Option Addr) (c0 : Nat) (A1 : Option Addr) (c1 : Nat) (w : World) (hr0 : Kd.C Kd.string w A0 a.length a) (hc0 : a.length ≤ c0) (hr1 : Kd.C Kd.string w A1 b.length b) (hc1 : b.length ≤ c1) :
    Calls Try.prog 52 #[.slice A0 a.length c0, .slice A1 b.length c1] w fun e w' => e = .returned (.bool (decide (a = b))) ∧ Drawn0 w w' :=
  slices_Equal_string_string.calls _ _ _ a _ _ b _ _ hr0 hc0 hr1 hc1 (equal_f a b hr0.2.1)

set_option maxHeartbeats 1000000 in
theorem equal55_c (w : World) (A0 : Option Addr) (c0 : Nat) (l0 : List (List ByteArray)) (A1 : Option Addr) (c1 : Nat) (l1 : List (List ByteArray))
    (hr0 : Kd.C (Kd.slice 9 Kd.string) w A0 l0.length l0) (hc0 : l0.length ≤ c0) (hr1 : Kd.C (Kd.slice 9 Kd.string) w A1 l1.length l1) (hc1 : l1.length ≤ c1) :
    Calls Try.prog 55 #[.slice A0 l0.length c0, .slice A1 l1.length c1, .func (.func 52) #[] #[]] w fun e w' => e = .returned (.bool (decide (l0 = l1))) ∧ Drawn0 w w' := by
  have HR0 := Aside0.mk hr0
  have HC0 := Aside0.mk hc0
  have HR1 := Aside0.mk hr1
  have HC1 := Aside0.mk hc1
  have HL0 := Aside0.mk hr0.2.1
  have HL1 := Aside0.mk hr1.2.1
  clear hr0 hc0 hr1 hc1
  by_cases hlen : l0.length = l1.length
  · have HN := Aside0.mk hlen
    have e1 : ((l0.length : Int) != (l1.length : Int)) = false := by rw [hlen]; simp
    have e2 : (l0.length != l1.length) = false := by rw [hlen]; simp
    clear hlen
    go_enter Try.func55, Try.ntmps55
    go_wp2
    repeat (go_quiet (fail); try go_wp2)
    go_loopg [17] l0.length (fun kq v17 w' => ∃ i : Nat, v17 = .int .i64 (i : Int) ∧ Aside0 (i ≤ l0.length ∧ kq = l0.length - i) ∧ Aside0 (l0.take i = l1.take i) ∧ Drawn0 w w')
    case atStart => exact ⟨0, rfl, ⟨Nat.zero_le _, rfl⟩, ⟨by simp⟩, Drawn0.refl _⟩
    case round =>
      obtain ⟨i, rfl, HI, HA, ⟨m1, rfl⟩⟩ := hrel
      have hli := HL0.out
      by_cases c4 : i < l0.length
      · have c4b0 : decide ((i : Int) < (l0.length : Int)) = true := decide_eq_true (by omega)
        have c4b1 : decide (i < l0.length) = true := decide_eq_true c4
        have c5 : i < l1.length := by have := HN.out; omega
        have c5b1 : decide (i < l1.length) = true := decide_eq_true c5
        obtain ⟨z, g0⟩ : ∃ z, l0[i]? = some z := ⟨_, List.getElem?_eq_getElem c4⟩
        obtain ⟨y, g1⟩ : ∃ y, l1[i]? = some y := ⟨_, List.getElem?_eq_getElem c5⟩
        obtain ⟨ad, A2, c2, rfl, hx, hl, hi⟩ := C_row HR0.out i z g0
        obtain ⟨ae, A3, c3, rfl, hy, hm, hj⟩ := C_row HR1.out i y g1
        have HS0 := Aside0.mk (take_snoc l0 i z g0)
        have HS1 := Aside0.mk (take_snoc l1 i y g1)
        have G0 := Aside0.mk g0
        have G1 := Aside0.mk g1
        have HR2 := Aside0.mk hi
        have HC2 := Aside0.mk hl
        have HR3 := Aside0.mk hj
        have HC3 := Aside0.mk hm
        clear hi hl hj hm g0 g1
        have bi : (i : Int) < 9223372036854775807 := by omega
        by_cases hp : z = y
        · have HD : Aside0 (decide (z = y) = true) := ⟨decide_eq_true hp⟩
          have HP := Aside0.mk hp
          clear hp
          go_wp2_with (go_at_call 52; (with_reducible refine (equal52_c z y _ _ _ _ _ ?sa ?sb ?sc ?sd).mono ?_); (case sa => with_reducible exact Kd.C_drewN HR2.out _); (case sb => exact HC2.out); (case sc => with_reducible exact Kd.C_drewN HR3.out _); (case sd => exact HC3.out); rintro e w' ⟨he, ⟨nd, rfl⟩⟩; rw [HD.out] at he; subst he)
          go_roundg (l0.length - (i + 1))
          case measure => have := HI.out; omega
          case rel => exact ⟨i + 1, by go_num, ⟨by omega, rfl⟩, ⟨by rw [HS0.out, HS1.out, HA.out, HP.out]⟩, ⟨⟨_, rfl⟩⟩⟩
        · have HD : Aside0 (decide (z = y) = false) := ⟨decide_eq_false hp⟩
          have HP := Aside0.mk hp
          clear hp
          go_wp2_with (go_at_call 52; (with_reducible refine (equal52_c z y _ _ _ _ _ ?sa ?sb ?sc ?sd).mono ?_); (case sa => with_reducible exact Kd.C_drewN HR2.out _); (case sb => exact HC2.out); (case sc => with_reducible exact Kd.C_drewN HR3.out _); (case sd => exact HC3.out); rintro e w' ⟨he, ⟨nd, rfl⟩⟩; rw [HD.out] at he; subst he)
          go_ret
          exact ⟨by rw [decide_eq_false (fun e => HP.out (by have h0 := G0.out; have h1 := G1.out; rw [e, h1] at h0; exact (Option.some.inj h0).symm))]; rfl, ⟨⟨_, rfl⟩⟩⟩
      · have c4b0 : decide ((i : Int) < (l0.length : Int)) = false := decide_eq_false (by omega)
        have c4b1 : decide (i < l0.length) = false := decide_eq_false c4
        have HQ : Aside0 (l0 = l1) := ⟨by
          have := HA.out
          rwa [List.take_of_length_le (by omega), List.take_of_length_le (by have := HN.out; omega)] at this⟩
        go_wp2
        repeat (go_quiet (fail); try go_wp2)
        go_ret
        exact ⟨by rw [decide_eq_true HQ.out]; rfl, ⟨⟨_, rfl⟩⟩⟩
  · have HN := Aside0.mk hlen
    have e1 : ((l0.length : Int) != (l1.length : Int)) = true := bne_iff_ne.mpr (by omega)
    have e2 : (l0.length != l1.length) = true := bne_iff_ne.mpr hlen
    clear hlen
    go_enter Try.func55, Try.ntmps55
    go_wp2
    repeat (go_quiet (fail); try go_wp2)
    go_ret
    exact ⟨by rw [decide_eq_false (fun e => HN.out (by rw [e]))]; rfl, Drawn0.refl _⟩

def sameP (x y : S27) : Bool := decide (x.f0 = y.f0) && (decide (x.f1 = y.f1) && (decide (x.f2 = y.f2) && decide (x.f3 = y.f3)))
theorem sameP_iff (x y : S27) : sameP x y = true ↔ x = y := by
  cases x; cases y
  simp [sameP]

set_option maxHeartbeats 4000000 in
set_option maxRecDepth 100000 in
theorem same54_c (W : World) (p : Addr) (b0 b1 : Bool) (T0 T1 B0 B1 : List ByteArray) (S0 S1 : List (List ByteArray)) (a1 a2 a3 e1 e2 e3 : Option Addr) (c1 c2 c3 d1 d2 d3 : Nat)
    (hp : W.cell? p = some (.func (.func 52) #[] #[])) (hpl : p.block < W.heap.size)
    (ha1 : Kd.C Kd.string W a1 T0.length T0) (la1 : T0.length ≤ c1) (ha2 : Kd.C Kd.string W a2 B0.length B0) (la2 : B0.length ≤ c2) (ha3 : Kd.C (Kd.slice 9 Kd.string) W a3 S0.length S0) (la3 : S0.length ≤ c3)
    (he1 : Kd.C Kd.string W e1 T1.length T1) (le1 : T1.length ≤ d1) (he2 : Kd.C Kd.string W e2 B1.length B1) (le2 : B1.length ≤ d2) (he3 : Kd.C (Kd.slice 9 Kd.string) W e3 S1.length S1) (le3 : S1.length ≤ d3) :
    Calls Try.prog 54 #[.agg #[.bool b0, .slice a1 T0.length c1, .slice a2 B0.length c2, .slice a3 S0.length c3], .agg #[.bool b1, .slice e1 T1.length d1, .slice e2 B1.length d2, .slice e3 S1.length d3], .pointer (some p)] W
      fun e w' => e = .returned (.bool (sameP ⟨b0, T0, B0, S0⟩ ⟨b1, T1, B1, S1⟩)) ∧ Below W.heap.size W w' := by
  obtain ⟨W2, hW2⟩ : ∃ W2, (W.alloc (.cells #[.bool b0, .slice a1 T0.length c1, .slice a2 B0.length c2, .slice a3 S0.length c3] 27)).alloc (.cells #[.bool b1, .slice e1 T1.length d1, .slice e2 B1.length d2, .slice e3 S1.length d3] 27) = W2 := ⟨_, rfl⟩
  have hBW : Below W.heap.size W W2 := by rw [← hW2]; exact below_alloc (below_alloc (Below.refl _ _) _) _
  have HB := Aside0.mk hBW
  have HA1 := Aside0.mk (Kd.C_below ha1 hBW)
  have HA2 := Aside0.mk (Kd.C_below ha2 hBW)
  have HA3 := Aside0.mk (Kd.C_below ha3 hBW)
  have HE1 := Aside0.mk (Kd.C_below he1 hBW)
  have HE2 := Aside0.mk (Kd.C_below he2 hBW)
  have HE3 := Aside0.mk (Kd.C_below he3 hBW)
  have L := Aside0.mk (And.intro la1 (And.intro la2 (And.intro la3 (And.intro le1 (And.intro le2 le3)))))
  have hp2 : W2.cell? p = some (.func (.func 52) #[] #[]) := (hBW.cell hpl).trans hp
  have hq0 : W2.heap[W.heap.size]? = some (.cells #[.bool b0, .slice a1 T0.length c1, .slice a2 B0.length c2, .slice a3 S0.length c3] 27 (0, 0)) := by
    rw [← hW2]; exact blk_later (Go.heap_alloc_new W _) (below_alloc (Below.refl _ _) _)
  have hq1 : W2.heap[W.heap.size + 1]? = some (.cells #[.bool b1, .slice e1 T1.length d1, .slice e2 B1.length d2, .slice e3 S1.length d3] 27 (0, 0)) := by
    rw [← hW2]
    have := Go.heap_alloc_new (W.alloc (.cells #[.bool b0, .slice a1 T0.length c1, .slice a2 B0.length c2, .slice a3 S0.length c3] 27)) (.cells #[.bool b1, .slice e1 T1.length d1, .slice e2 B1.length d2, .slice e3 S1.length d3] 27)
    rw [World.size_alloc] at this
    exact this
  have k00 := blk_cell hq0 0
  have k01 := blk_cell hq0 1
  have k02 := blk_cell hq0 2
  have k03 := blk_cell hq0 3
  have k10 := blk_cell hq1 0
  have k11 := blk_cell hq1 1
  have k12 := blk_cell hq1 2
  have k13 := blk_cell hq1 3
  simp only [List.getElem?_toArray, List.getElem?_cons_zero, List.getElem?_cons_succ] at k00 k01 k02 k03 k10 k11 k12 k13
  clear ha1 ha2 ha3 he1 he2 he3 la1 la2 la3 le1 le2 le3 hBW hq0 hq1 hp
  have key : Aside0 (sameP ⟨b0, T0, B0, S0⟩ ⟨b1, T1, B1, S1⟩ = (decide (b0 = b1) && (decide (T0 = T1) && (decide (B0 = B1) && decide (S0 = S1))))) := ⟨rfl⟩
  obtain ⟨s3, h3⟩ : ∃ s3, s3 = decide (S0 = S1) := ⟨_, rfl⟩
  obtain ⟨s1, h1⟩ : ∃ s1, s1 = decide (T0 = T1) := ⟨_, rfl⟩
  obtain ⟨s2, h2⟩ : ∃ s2, s2 = decide (B0 = B1) := ⟨_, rfl⟩
  rw [key.out, ← h1, ← h2, ← h3]
  have H1 := Aside0.mk h1
  have H2 := Aside0.mk h2
  have H3 := Aside0.mk h3
  clear h1 h2 h3 key
  cases b0 <;> cases b1 <;> cases s1 <;> cases s2
  all_goals
    go_enter Try.func54, Try.ntmps54
    go_wp2_with (first
      | (go_at_call 55; (with_reducible refine (equal55_c _ a3 c3 S0 e3 d3 S1 HA3.out L.out.2.2.1 HE3.out L.out.2.2.2.2.2).mono ?_); rintro e w' ⟨he, ⟨nd, rfl⟩⟩; rw [← H3.out] at he; subst he)
      | (go_at_call 52; (with_reducible refine (equal52_c T0 T1 a1 c1 e1 d1 _ ?sa ?sb ?sc ?sd).mono ?_); (case sa => with_reducible exact Kd.C_drewN HA1.out _); (case sb => exact L.out.1); (case sc => with_reducible exact Kd.C_drewN HE1.out _); (case sd => exact L.out.2.2.2.1); rintro e w' ⟨he, ⟨nd1, rfl⟩⟩; rw [← H1.out] at he; subst he)
      | (go_at_call 52; (with_reducible refine (equal52_c B0 B1 a2 c2 e2 d2 _ ?sa ?sb ?sc ?sd).mono ?_); (case sa => with_reducible exact Kd.C_drewN HA2.out _); (case sb => exact L.out.2.1); (case sc => with_reducible exact Kd.C_drewN HE2.out _); (case sd => exact L.out.2.2.2.2.1); rintro e w' ⟨he, ⟨nd2, rfl⟩⟩; rw [← H2.out] at he; subst he))
    go_ret
    exact ⟨by first | rfl | simp, by repeat (first | exact HB.out | apply pw_below_drewN)⟩

end Go.Proofs.Ytiaoppikdgoieaa.M
namespace Go.Proofs.Ytiaoppikdgoieaa.M
open Go.RowKit Go.Proofs Go.Proofs.YtiaoppikdgoieaaW.PrintWords Go.Proofs.YtiaoppikdgoieaaW.PrintLast Go.Proofs.YtiaoppikdgoieaaW.PrintMore Go.Proofs.Ytiaoppikdgoieaa.Hand
attribute [local go_sem] Oper.semAt_some
set_option linter.unusedVariables false
set_option linter.unusedSimpArgs false

theorem zerosN {ops : Array Oper} {rest : List Oper} {op : Oper} {a : Act} {Q : Exit → Act → World → Prop} (hgd : op.guard = none) (s x : Operand) (hop : op.op = .call { callee := .builtin .append, args := #[s, x], argTypes := #[22, 3] })
    (W : World) (n₀ : Nat) (n : Nat) (hs : a.eval s = .slice none 0 0) (hx : a.eval x = .int .i64 (n : Int)) (hn : n₀ ≤ W.heap.size) (hl : n ≤ 1000000)
    (h : ∀ A c w1, Kd.R Kd.string 9 w1 n₀ (fun _ => True) (.slice A 0 c) [] → Below n₀ W w1 → wpList Try.prog ops Q rest (a.put op.dst (.slice A n c)) w1) :
    wpList Try.prog ops Q (op :: rest) a W :=
  Kd.R_append_zeros Kd.string (w0 := W) n₀ hgd s x 22 3 9 (.string ⟨#[]⟩) 16 hop Try.underlying22 Try.underlying3 info9 rfl (by decide) (by omega) (.slice none 0 0) [] (⟨#[]⟩ : ByteArray) (n : Int) (fun _ => True) hs hx rfl (fun _ _ => trivial) (Kd.R_nil _ _ _ _ _) (by omega) (Below.refl _ _) hn (by simp; omega)
    (fun v1 w1 h1 h2 h3 _ => by
      obtain ⟨A, c, rfl⟩ := Kd.R_slice h1
      have h4 := Kd.R_take (m := 0) h1 (Nat.zero_le _)
      rw [List.take_zero] at h4
      have := h A c w1 h4 h2
      simpa using this)
set_option maxHeartbeats 4000000 in
set_option maxRecDepth 100000 in
theorem grow79_c (w : World) (n : Nat) (hn : n ≤ 1000000) :
    Calls Try.prog 79 #[.slice none 0 0, .int .i64 (n : Int)] w fun e w' => ∃ v, e = .returned v ∧ Kd.R Kd.string 9 w' w.heap.size (fun _ => True) v [] ∧ Below w.heap.size w w' := by
  have d1 : decide ((n : Int) < 0) = false := decide_eq_false (by omega)
  have w1 : wrap64 ((n : Int) - 0) = (n : Int) := by unfold wrap64; omega
  by_cases h0 : n = 0
  · subst h0
    go_enter Try.func79, Try.ntmps79
    go_wp2
    go_ret
    exact ⟨_, rfl, Kd.R_nil _ _ _ _ _, Below.refl _ _⟩
  · have d2 : decide ((n : Int) > 0) = true := decide_eq_true (by omega)
    have d3 : decide (0 < (n : Int)) = true := decide_eq_true (by omega)
    have d4 : decide (0 < n) = true := decide_eq_true (by omega)
    have HN := Aside0.mk hn
    have b0 : 0 ≤ (n : Int) := by omega
    have b1 : 0 < n := by omega
    clear h0
    go_enter Try.func79, Try.ntmps79
    go_wp2_with (first | (at_builtin; refine zerosN rfl (.tmp 20) (.tmp 21) rfl w w.heap.size n rfl rfl (Nat.le_refl _) HN.out ?_
                          intro A c w1 hR hB
                          have HR := Aside0.mk hR
                          have HB := Aside0.mk hB
                          clear hR hB))
    go_ret
    exact ⟨_, rfl, HR.out, HB.out⟩

theorem flat_pre (l : List (List ByteArray)) (i : Nat) : (l.take i).flatten.length ≤ l.flatten.length := by
  have e : l.flatten = (l.take i).flatten ++ (l.drop i).flatten := by rw [← List.flatten_append, List.take_append_drop]
  rw [e]; simp
theorem flat_snoc (l : List (List ByteArray)) (i : Nat) (x : List ByteArray) (h : l[i]? = some x) : (l.take (i + 1)).flatten = (l.take i).flatten ++ x := by
  rw [take_snoc l i x h]; simp
set_option maxHeartbeats 4000000 in
set_option maxRecDepth 100000 in
theorem concat76_c (w : World) (A0 : Option Addr) (c0 : Nat) (l0 : List (List ByteArray)) (hr0 : Kd.C (Kd.slice 9 Kd.string) w A0 l0.length l0) (hc0 : l0.length ≤ c0) (hlen : l0.flatten.length ≤ 1000000) (hl0 : l0.length ≤ 1000000) :
    Calls Try.prog 76 #[.slice A0 l0.length c0] w fun e w' => ∃ v, e = .returned v ∧ Kd.R Kd.string 9 w' w.heap.size (fun _ => True) v l0.flatten ∧ Below w.heap.size w w' := by
  have R0 := Aside0.mk hr0
  have HLE := Aside0.mk hlen
  have HL0 := Aside0.mk hl0
  clear hr0 hc0 hlen hl0
  go_enter Try.func76, Try.ntmps76
  go_wp2
  go_loopg [3, 11] l0.length (fun kq v3 v11 wr => ∃ i : Nat, v11 = .int .i64 (i : Int) ∧ v3 = .int .i64 ((l0.take i).flatten.length : Int) ∧ w = wr ∧ Aside0 (i ≤ l0.length ∧ kq = l0.length - i))
  case atStart => exact ⟨0, rfl, rfl, rfl, ⟨Nat.zero_le _, rfl⟩⟩
  case round =>
    obtain ⟨i, rfl, rfl, rfl, HI⟩ := hrel
    by_cases c4 : i < l0.length
    · have c4b0 : decide ((i : Int) < (l0.length : Int)) = true := decide_eq_true (by omega)
      have c4b1 : decide (i < l0.length) = true := decide_eq_true c4
      obtain ⟨z, g0⟩ : ∃ z, l0[i]? = some z := ⟨_, List.getElem?_eq_getElem c4⟩
      obtain ⟨ad, A1, c1, rfl, hx, hl1, hi1⟩ := C_row R0.out i z g0
      have HSN := Aside0.mk (flat_snoc l0 i z g0)
      have HPL := Aside0.mk (flat_pre l0 (i + 1))
      obtain ⟨m, hm⟩ : ∃ m, (l0.take i).flatten.length = m := ⟨_, rfl⟩
      have HM := Aside0.mk hm
      rw [hm]
      have hs : m + z.length ≤ 1000000 := by have h1 := HPL.out; have h2 := HLE.out; rw [HSN.out, List.length_append, hm] at h1; omega
      have w1 : wrap64 ((m : Int) + (z.length : Int)) = ((m + z.length : Nat) : Int) := by unfold wrap64; omega
      have w2 : wrap64 ((i : Int) + 1) = ((i + 1 : Nat) : Int) := by have := HL0.out; unfold wrap64; omega
      have d1 : decide (((m + z.length : Nat) : Int) < 0) = false := decide_eq_false (by omega)
      have HW2 := Aside0.mk w2
      have HS := Aside0.mk hs
      clear hm hs w2
      go_wp2
      go_roundg (l0.length - (i + 1))
      case measure => have := HI.out; omega
      case rel => exact ⟨i + 1, by first | rfl | (simp only [i64_w]; rw [HW2.out]) | (rw [HW2.out]), by rw [HSN.out, List.length_append, HM.out]; have := HS.out; first | rfl | (simp; unfold wrap64; omega), rfl, ⟨by omega, rfl⟩⟩
    · have hil : l0.take i = l0 := List.take_of_length_le (by omega)
      have c4b0 : decide ((i : Int) < (l0.length : Int)) = false := decide_eq_false (by omega)
      have c4b1 : decide (i < l0.length) = false := decide_eq_false c4
      obtain ⟨m, hm⟩ : ∃ m, l0.flatten.length = m := ⟨_, rfl⟩
      have HMM : Aside0 (m ≤ 1000000) := ⟨by rw [← hm]; exact HLE.out⟩
      rw [hil, hm]
      clear hil c4 HI hm
      go_wp2_with (go_at_call 79; (with_reducible refine (grow79_c _ m HMM.out).mono ?_); rintro e w2 ⟨v, rfl, hR, hB⟩; have HR := Aside0.mk hR; have HB := Aside0.mk hB; clear hR hB)
      go_loopg [6, 27] l0.length (fun kq v6 v27 wr => ∃ i : Nat, v27 = .int .i64 (i : Int) ∧ Aside0 (i ≤ l0.length ∧ kq = l0.length - i) ∧ Aside0 (Kd.R Kd.string 9 wr w.heap.size (fun _ => True) v6 (l0.take i).flatten) ∧ Aside0 (Below w.heap.size w wr))
      case atStart => exact ⟨0, rfl, ⟨Nat.zero_le _, rfl⟩, ⟨by simpa using HR.out⟩, HB⟩
      case round =>
        clear HR HB
        obtain ⟨i, rfl, HI, HR, HB⟩ := hrel
        by_cases c4 : i < l0.length
        · have c4b0 : decide ((i : Int) < (l0.length : Int)) = true := decide_eq_true (by omega)
          have c4b1 : decide (i < l0.length) = true := decide_eq_true c4
          obtain ⟨z, g0⟩ : ∃ z, l0[i]? = some z := ⟨_, List.getElem?_eq_getElem c4⟩
          obtain ⟨ad, A1, c1, rfl, hx, hl1, hi1⟩ := C_row (Kd.C_below R0.out HB.out) i z g0
          have HSN := Aside0.mk (flat_snoc l0 i z g0)
          have HPL := Aside0.mk (flat_pre l0 (i + 1))
          have HC1 := Aside0.mk hi1
          have HS : Aside0 ((l0.take i).flatten.length + z.length ≤ 1000000) := ⟨by have h1 := HPL.out; have h2 := HLE.out; rw [HSN.out, List.length_append] at h1; omega⟩
          obtain ⟨A9, k9, rfl⟩ := Kd.R_slice HR.out
          have HW2 : Aside0 (wrap64 ((i : Int) + 1) = ((i + 1 : Nat) : Int)) := ⟨by have := HL0.out; unfold wrap64; omega⟩
          go_wp2_with (first | (at_builtin; refine appN rfl (.tmp 31) (.tmp 32) rfl _ w.heap.size _ _ z A1 c1 rfl rfl HR.out HC1.out (below_size HB.out) HS.out ?_
                                intro v1 w1 hR1 hB1 hg1
                                rw [← HSN.out] at hR1
                                have R1 := Aside0.mk hR1
                                have B1 := Aside0.mk (HB.out.trans hB1)
                                clear hR1 hB1 hg1))
          go_roundg (l0.length - (i + 1))
          case measure => have := HI.out; omega
          case rel => exact ⟨i + 1, by first | rfl | (simp only [i64_w]; rw [HW2.out]) | (rw [HW2.out]), ⟨by omega, rfl⟩, R1, B1⟩
        · have hil : l0.take i = l0 := List.take_of_length_le (by omega)
          have c4b0 : decide ((i : Int) < (l0.length : Int)) = false := decide_eq_false (by omega)
          have c4b1 : decide (i < l0.length) = false := decide_eq_false c4
          rw [hil] at HR
          clear hil c4 HI
          go_wp2
          go_ret
          exact ⟨_, rfl, HR.out, HB.out⟩
end Go.Proofs.Ytiaoppikdgoieaa.M
namespace Go.Proofs.Ytiaoppikdgoieaa.M
open Go.RowKit Go.Proofs Go.Proofs.YtiaoppikdgoieaaW.PrintWords Go.Proofs.YtiaoppikdgoieaaW.PrintLast Go.Proofs.YtiaoppikdgoieaaW.PrintMore Go.Proofs.Ytiaoppikdgoieaa.Hand
attribute [local go_sem] Oper.semAt_some
set_option linter.unusedVariables false
set_option linter.unusedSimpArgs false

set_option maxHeartbeats 4000000 in
set_option maxRecDepth 100000 in
theorem last75_nil (W : World) (B : Nat) (A : Option Addr) (c : Nat) (hB : Boxed W B 75 (.slice A 0 c)) :
    Calls Try.prog 75 #[.pointer (some ⟨B, 0, none⟩)] W fun e w' => e = .returned (.pointer none) ∧ w' = W := by
  have hc := hB.cell
  clear hB
  go_enter Try.func75, Try.ntmps75
  go_wp2
  go_ret
  exact ⟨rfl, rfl⟩
set_option maxHeartbeats 4000000 in
set_option maxRecDepth 100000 in
theorem last75_conf (W : World) (B g m cap : Nat) (hm : m ≤ 1000000) (hB : Boxed W B 75 (.slice (some ⟨g, 0, none⟩) (m + 1) cap)) (h0 : W.cell? ⟨g, m * 4, none⟩ = some (.bool true)) :
    Calls Try.prog 75 #[.pointer (some ⟨B, 0, none⟩)] W fun e w' => e = .returned (.pointer none) ∧ w' = W := by
  have hc := hB.cell
  clear hB
  go_enter Try.func75, Try.ntmps75
  go_wp2
  go_ret
  exact ⟨rfl, rfl⟩
set_option maxHeartbeats 4000000 in
set_option maxRecDepth 100000 in
theorem last75_text (W : World) (B g m cap : Nat) (hm : m ≤ 1000000) (hB : Boxed W B 75 (.slice (some ⟨g, 0, none⟩) (m + 1) cap)) (h0 : W.cell? ⟨g, m * 4, none⟩ = some (.bool false)) :
    Calls Try.prog 75 #[.pointer (some ⟨B, 0, none⟩)] W fun e w' => e = .returned (.pointer (some ⟨g, m * 4, none⟩)) ∧ w' = W := by
  have hc := hB.cell
  clear hB
  go_enter Try.func75, Try.ntmps75
  go_wp2
  go_ret
  exact ⟨rfl, rfl⟩
end Go.Proofs.Ytiaoppikdgoieaa.M
namespace Go.Proofs.Ytiaoppikdgoieaa.M
open Go.RowKit Go.Proofs Go.Proofs.YtiaoppikdgoieaaW.PrintWords Go.Proofs.YtiaoppikdgoieaaW.PrintLast Go.Proofs.YtiaoppikdgoieaaW.PrintMore Go.Proofs.Ytiaoppikdgoieaa.Hand
attribute [local go_sem] Oper.semAt_some
set_option linter.unusedVariables false
set_option linter.unusedSimpArgs false

/-- Pieces, one more. -/
def putG (acc : List S27) (x : S27) : List S27 :=
  if x.f0 = true then acc ++ [⟨true, [], x.f2, x.f3⟩]
  else if x.f1 = [] then acc
  else if acc ≠ [] ∧ (rd_T27 acc ((acc.length - 1 : Nat) : Int)).f0 = false then
    acc.set (acc.length - 1) ⟨false, (rd_T27 acc ((acc.length - 1 : Nat) : Int)).f1 ++ x.f1, (rd_T27 acc ((acc.length - 1 : Nat) : Int)).f2, (rd_T27 acc ((acc.length - 1 : Nat) : Int)).f3⟩
  else acc ++ [⟨false, x.f1, [], []⟩]
theorem cell_alloc_ {W : World} (o : Obj) {p : Addr} {x : Value} (h : W.cell? p = some x) : (W.alloc o).cell? p = some x :=
  ((below_alloc (Below.refl W.heap.size W) o).cell (World.block_lt_of_cell? _ _ h)).trans h
def okP (P : Nat → Prop) (B k : Nat) : Prop := (P k ∧ k < B) ∨ B + 1 ≤ k
theorem appP_step {ops : Array Oper} {op : Oper} {a : Act} {Q : Exit → Act → World → Prop} {Kc : Act → World → Prop} (W : World) (hw : Region.wanted op (yielded ops a.tmps) = true) (s x : Operand) (hop : op.op = .call { callee := .builtin .append, args := #[s, x], argTypes := #[48, 48] })
    (B : Nat) (P : Nat → Prop) (acc : List S27) (y : S27) (cs : List Value) (v : Value) (hs : a.eval s = v) (hx : a.eval x = .slice (some ⟨W.heap.size, 0, none⟩) 1 1) (hy : Kd.FK k27 W (fun k => P k ∧ k < B) y cs) (HO : Kd.N k27 27 W (B + 1) (okP P B) v acc) (hn : B + 1 ≤ W.heap.size) (hl : acc.length ≤ 1000000)
    (h : ∀ v1 w1, Kd.N k27 27 w1 (B + 1) (okP P B) v1 (acc ++ [y]) → Below (B + 1) W w1 → W.grownBy w1 v.ownBlock → Kc (a.put op.dst v1) w1) :
    if Region.wanted op (yielded ops a.tmps) = true then Oper.wp Try.prog op a (W.alloc (.cells cs.toArray 27)) Kc Q else Kc (a.put op.dst undef) (W.alloc (.cells cs.toArray 27)) :=
  Kd.N_append_step k27 (w0 := W) (B + 1) hw s x 48 27 (.agg #[(.bool false), (.slice none 0 0), (.slice none 0 0), (.slice none 0 0)]) 80 hop Try.underlying48 info27 rfl (by decide) (by omega) v acc y cs (okP P B) (fun k => P k ∧ k < B) hs hx hy
    (fun k hk => ⟨.inl hk, fun he => by have := Kd.N_base HO k he.symm; have := hk.2; omega⟩) (fun k hk => .inr (by omega)) HO (Below.refl _ _) hn (by omega) (fun v1 w1 h1 h2 h3 _ => h v1 w1 h1 h2 h3)
theorem putP_box {B : Nat} {P : Nat → Prop} {w1 : World} {v v1 : Value} {acc : List S27} (hv : Boxed w1 B 75 v) (hN : Kd.N k27 27 w1 (B + 1) (okP P B) v1 acc) :
    Boxed (w1.setCell ⟨B, 0, none⟩ v1) B 75 v1 ∧ Kd.N k27 27 (w1.setCell ⟨B, 0, none⟩ v1) (B + 1) (okP P B) v1 acc ∧ Below B w1 (w1.setCell ⟨B, 0, none⟩ v1) :=
  ⟨hv.set v1, Kd.N_far hN (fun k hk => by show k ≠ B; rcases hk with hk | hk; exact Nat.ne_of_lt hk.2; omega) v1, (Below.refl _ _).setCell (p := ⟨B, 0, none⟩) (Nat.le_refl _) _⟩
/-- Two rows, side by side in a block that was made just now. -/
theorem C_two {W : World} {a1 a2 : Option Addr} {c1 c2 : Nat} {l1 l2 : List ByteArray} (h1 : l1.length ≤ c1) (g1 : Kd.string.C W a1 l1.length l1) (h2 : l2.length ≤ c2) (g2 : Kd.string.C W a2 l2.length l2) :
    (Kd.slice 9 Kd.string).C (W.alloc (.cells #[.slice a1 l1.length c1, .slice a2 l2.length c2] 22)) (some ⟨W.heap.size, 0, none⟩) 2 [l1, l2] := by
  have hb := Go.heap_alloc_new W (.cells #[.slice a1 l1.length c1, .slice a2 l2.length c2] 22)
  have k0 := blk_cell hb 0
  have k1 := blk_cell hb 1
  simp only [List.getElem?_toArray, List.getElem?_cons_zero, List.getElem?_cons_succ] at k0 k1
  refine ⟨rfl, by omega, fun _ => ⟨_, rfl, fun j p hj => ?_⟩⟩
  rcases j with _ | _ | j
  · obtain rfl : l1 = p := by simpa using hj
    refine ⟨[.slice a1 l1.length c1], rfl, ⟨a1, c1, rfl, h1, Kd.C_alloc g1 _⟩, fun i u hu => ?_⟩
    have hi : i = 0 := by have := (List.getElem?_eq_some_iff.1 hu).1; simpa using this
    subst hi
    obtain rfl : Value.slice a1 l1.length c1 = u := by simpa using hu
    exact k0
  · obtain rfl : l2 = p := by simpa using hj
    refine ⟨[.slice a2 l2.length c2], rfl, ⟨a2, c2, rfl, h2, Kd.C_alloc g2 _⟩, fun i u hu => ?_⟩
    have hi : i = 0 := by have := (List.getElem?_eq_some_iff.1 hu).1; simpa using this
    subst hi
    obtain rfl : Value.slice a2 l2.length c2 = u := by simpa using hu
    exact k1
  · simp at hj
theorem concat2_c (W : World) (a1 a2 : Option Addr) (c1 c2 : Nat) (l1 l2 : List ByteArray) (h1 : l1.length ≤ c1) (g1 : Kd.string.C W a1 l1.length l1) (h2 : l2.length ≤ c2) (g2 : Kd.string.C W a2 l2.length l2) (hlen : l1.length + l2.length ≤ 1000000) :
    Calls Try.prog 76 #[.slice (some ⟨W.heap.size, 0, none⟩) 2 2] (W.alloc (.cells #[.slice a1 l1.length c1, .slice a2 l2.length c2] 22)) fun e w' => ∃ A9 c9, e = .returned (.slice A9 (l1 ++ l2).length c9) ∧ (l1 ++ l2).length ≤ c9 ∧ Kd.F Kd.string w' (fun k => W.heap.size ≤ k) A9 (l1 ++ l2).length (l1 ++ l2) ∧ Below W.heap.size W w' := by
  refine (concat76_c (W.alloc (.cells #[.slice a1 l1.length c1, .slice a2 l2.length c2] 22)) (some ⟨W.heap.size, 0, none⟩) 2 [l1, l2] (C_two h1 g1 h2 g2) (by simp) (by simpa using hlen) (by simp)).mono ?_
  rintro e w' ⟨v, rfl, hR, hB⟩
  have ef : [l1, l2].flatten = l1 ++ l2 := by simp
  rw [ef] at hR
  obtain ⟨A9, c9, rfl⟩ := Kd.R_slice hR
  refine ⟨A9, c9, rfl, (Kd.R_reads' hR).2.1, Kd.R_F (Kd.R_mono (Kd.R_bound hR) (fun k hk => ?_)), below_step (below_alloc (Below.refl _ _) _) hB⟩
  have := hk.2.1
  simp at this
  omega
/-- A later world, in which a block that was made since has been written. -/
theorem N_later {B : Nat} {P : Nat → Prop} {W w3 : World} {v : Value} {acc : List S27} (h : Kd.N k27 27 W (B + 1) (okP P B) v acc) (hb : Below W.heap.size W w3) : Kd.N k27 27 w3 (B + 1) (okP P B) v acc := Kd.N_below h hb
theorem last_cells {B : Nat} {P : Nat → Prop} {W : World} {g cap m : Nat} {acc : List S27} (h : Kd.N k27 27 W (B + 1) (okP P B) (.slice (some ⟨g, 0, none⟩) acc.length cap) acc) (hm : acc.length = m + 1) :
    ∃ b1 d1 b2 d2 b3 d3, W.cell? ⟨g, m * 4, none⟩ = some (.bool (rd_T27 acc (m : Int)).f0) ∧ W.cell? ⟨g, m * 4 + 1, none⟩ = some (.slice b1 (rd_T27 acc (m : Int)).f1.length d1) ∧ W.frozen? ⟨g, m * 4 + 1, none⟩ = false ∧
      (∀ j u, [Value.bool (rd_T27 acc (m : Int)).f0, .slice b1 (rd_T27 acc (m : Int)).f1.length d1, .slice b2 (rd_T27 acc (m : Int)).f2.length d2, .slice b3 (rd_T27 acc (m : Int)).f3.length d3][j]? = some u → W.cell? ⟨g, m * 4 + j, none⟩ = some u) ∧
      (rd_T27 acc (m : Int)).f1.length ≤ d1 ∧ Kd.F Kd.string W (fun k => okP P B k ∧ k ≠ g) b1 (rd_T27 acc (m : Int)).f1.length (rd_T27 acc (m : Int)).f1 ∧
      (rd_T27 acc (m : Int)).f2.length ≤ d2 ∧ Kd.F Kd.string W (fun k => okP P B k ∧ k ≠ g) b2 (rd_T27 acc (m : Int)).f2.length (rd_T27 acc (m : Int)).f2 ∧
      (rd_T27 acc (m : Int)).f3.length ≤ d3 ∧ Kd.F (Kd.slice 9 Kd.string) W (fun k => okP P B k ∧ k ≠ g) b3 (rd_T27 acc (m : Int)).f3.length (rd_T27 acc (m : Int)).f3 := by
  obtain ⟨cs, hl, hM, hcc, hfr⟩ := Kd.N_elem h z27 (m : Int) (by omega) (by omega)
  have e : acc.getD ((m : Int)).toNat z27 = rd_T27 acc (m : Int) := rfl
  rw [e] at hM
  obtain ⟨b1, d1, b2, d2, b3, d3, rfl, l1, g1, l2, g2, l3, g3⟩ := k27_openF hM
  have hcc' : ∀ j u, [Value.bool (rd_T27 acc (m : Int)).f0, .slice b1 (rd_T27 acc (m : Int)).f1.length d1, .slice b2 (rd_T27 acc (m : Int)).f2.length d2, .slice b3 (rd_T27 acc (m : Int)).f3.length d3][j]? = some u → W.cell? ⟨g, m * 4 + j, none⟩ = some u := hcc
  exact ⟨b1, d1, b2, d2, b3, d3, hcc' 0 _ rfl, hcc' 1 _ rfl, hfr 1, hcc', l1, g1, l2, g2, l3, g3⟩
/-- The last piece's text, written anew. -/
theorem last_put {B : Nat} {P : Nat → Prop} {W : World} {g cap m : Nat} {acc : List S27} {b1 b2 b3 A9 : Option Addr} {d1 d2 d3 c9 : Nat} {t : List ByteArray} (h : Kd.N k27 27 W (B + 1) (okP P B) (.slice (some ⟨g, 0, none⟩) acc.length cap) acc) (hm : acc.length = m + 1)
    (hcc : ∀ j u, [Value.bool (rd_T27 acc (m : Int)).f0, .slice b1 (rd_T27 acc (m : Int)).f1.length d1, .slice b2 (rd_T27 acc (m : Int)).f2.length d2, .slice b3 (rd_T27 acc (m : Int)).f3.length d3][j]? = some u → W.cell? ⟨g, m * 4 + j, none⟩ = some u)
    (l9 : t.length ≤ c9) (g9 : Kd.F Kd.string W (fun k => okP P B k ∧ k ≠ g) A9 t.length t)
    (l2 : (rd_T27 acc (m : Int)).f2.length ≤ d2) (g2 : Kd.F Kd.string W (fun k => okP P B k ∧ k ≠ g) b2 (rd_T27 acc (m : Int)).f2.length (rd_T27 acc (m : Int)).f2) (l3 : (rd_T27 acc (m : Int)).f3.length ≤ d3) (g3 : Kd.F (Kd.slice 9 Kd.string) W (fun k => okP P B k ∧ k ≠ g) b3 (rd_T27 acc (m : Int)).f3.length (rd_T27 acc (m : Int)).f3) :
    Kd.N k27 27 (W.setCell ⟨g, m * 4 + 1, none⟩ (.slice A9 t.length c9)) (B + 1) (okP P B) (.slice (some ⟨g, 0, none⟩) acc.length cap) (acc.set m ⟨(rd_T27 acc (m : Int)).f0, t, (rd_T27 acc (m : Int)).f2, (rd_T27 acc (m : Int)).f3⟩) :=
  (Kd.N_seg (d := k27) h (m : Int) (by omega) (by omega) (c := [Value.bool (rd_T27 acc (m : Int)).f0, .slice b1 (rd_T27 acc (m : Int)).f1.length d1, .slice b2 (rd_T27 acc (m : Int)).f2.length d2, .slice b3 (rd_T27 acc (m : Int)).f3.length d3]) (seg := [.slice A9 t.length c9]) (j := 1) rfl hcc (by show 1 + 1 ≤ 4; omega) (x' := ⟨(rd_T27 acc (m : Int)).f0, t, (rd_T27 acc (m : Int)).f2, (rd_T27 acc (m : Int)).f3⟩) (okp := fun k => okP P B k ∧ k ≠ g)
    (k27_mkF W _ ⟨(rd_T27 acc (m : Int)).f0, t, (rd_T27 acc (m : Int)).f2, (rd_T27 acc (m : Int)).f3⟩ l9 g9 l2 g2 l3 g3) (fun _ h => h)).1

set_option maxHeartbeats 8000000 in
set_option maxRecDepth 100000 in
theorem put65_c (P : Nat → Prop) (B : Nat) (W : World) (acc : List S27) (v : Value) (x : S27) (A1 : Option Addr) (c1 : Nat) (A2 : Option Addr) (c2 : Nat) (A3 : Option Addr) (c3 : Nat) (hv : Boxed W B 75 v) (hN : Kd.N k27 27 W (B + 1) (okP P B) v acc) (hacc : acc.length ≤ 1000000) (htx : ∀ q ∈ acc, q.f1.length + x.f1.length ≤ 1000000)
    (l1 : x.f1.length ≤ c1) (g1 : Kd.F Kd.string W (fun k => P k ∧ k < B) A1 x.f1.length x.f1) (l2 : x.f2.length ≤ c2) (g2 : Kd.F Kd.string W (fun k => P k ∧ k < B) A2 x.f2.length x.f2) (l3 : x.f3.length ≤ c3) (g3 : Kd.F (Kd.slice 9 Kd.string) W (fun k => P k ∧ k < B) A3 x.f3.length x.f3) :
    Calls Try.prog 65 #[.pointer (some ⟨B, 0, none⟩), .agg #[.bool x.f0, .slice A1 x.f1.length c1, .slice A2 x.f2.length c2, .slice A3 x.f3.length c3]] W fun e w' => e = .returned (.tuple #[]) ∧ ∃ v', Boxed w' B 75 v' ∧ Kd.N k27 27 w' (B + 1) (okP P B) v' (putG acc x) ∧ Below B W w' := by
  have hBlt := blk_lt hv
  have HBW : Aside0 (Below B W (W.alloc (.cells #[.bool x.f0, .slice A1 x.f1.length c1, .slice A2 x.f2.length c2, .slice A3 x.f3.length c3] 27))) := ⟨(Below.refl B W).alloc (by omega) _⟩
  have HSZ : Aside0 (B + 1 ≤ (W.alloc (.cells #[.bool x.f0, .slice A1 x.f1.length c1, .slice A2 x.f2.length c2, .slice A3 x.f3.length c3] 27)).heap.size) := ⟨by simp; omega⟩
  obtain ⟨A, c, rfl⟩ := Kd.N_slice hN
  have hv1 : Boxed (W.alloc (.cells #[.bool x.f0, .slice A1 x.f1.length c1, .slice A2 x.f2.length c2, .slice A3 x.f3.length c3] 27)) B 75 (.slice A acc.length c) := blk_later hv (below_alloc (Below.refl _ _) _)
  have hbc := hv1.cell
  have hbf := hv1.frozen
  have HV := Aside0.mk hv1
  have HN := Aside0.mk (Kd.N_alloc hN (.cells #[.bool x.f0, .slice A1 x.f1.length c1, .slice A2 x.f2.length c2, .slice A3 x.f3.length c3] 27))
  have HG1 := Aside0.mk (Kd.F_alloc g1 (.cells #[.bool x.f0, .slice A1 x.f1.length c1, .slice A2 x.f2.length c2, .slice A3 x.f3.length c3] 27))
  have HG2 := Aside0.mk (Kd.F_alloc g2 (.cells #[.bool x.f0, .slice A1 x.f1.length c1, .slice A2 x.f2.length c2, .slice A3 x.f3.length c3] 27))
  have HG3 := Aside0.mk (Kd.F_alloc g3 (.cells #[.bool x.f0, .slice A1 x.f1.length c1, .slice A2 x.f2.length c2, .slice A3 x.f3.length c3] 27))
  have HL := Aside0.mk (And.intro l1 (And.intro l2 l3))
  have HLA := Aside0.mk hacc
  have HTX := Aside0.mk htx
  clear hv hN hacc htx l1 g1 l2 g2 l3 g3 hv1
  -- what last tells
  obtain ⟨q, hq⟩ : ∃ q : Option Addr, (∃ m g, acc.length = m + 1 ∧ A = some ⟨g, 0, none⟩ ∧ q = some ⟨g, m * 4, none⟩ ∧ (rd_T27 acc (m : Int)).f0 = false) ∨ (q = none ∧ ¬ (acc ≠ [] ∧ (rd_T27 acc ((acc.length - 1 : Nat) : Int)).f0 = false)) := by
    by_cases hp : acc ≠ [] ∧ (rd_T27 acc ((acc.length - 1 : Nat) : Int)).f0 = false
    · have hpos : 0 < acc.length := List.length_pos_iff.2 hp.1
      obtain ⟨g, cap, he, _⟩ := Kd.N_form HN.out hpos
      injection he with he _ _
      exact ⟨_, .inl ⟨acc.length - 1, g, by omega, he, rfl, hp.2⟩⟩
    · exact ⟨none, .inr ⟨rfl, hp⟩⟩
  have HLAST : Aside0 (Calls Try.prog 75 #[.pointer (some ⟨B, 0, none⟩)] (W.alloc (.cells #[.bool x.f0, .slice A1 x.f1.length c1, .slice A2 x.f2.length c2, .slice A3 x.f3.length c3] 27)) fun e w' => e = .returned (.pointer q) ∧ w' = (W.alloc (.cells #[.bool x.f0, .slice A1 x.f1.length c1, .slice A2 x.f2.length c2, .slice A3 x.f3.length c3] 27))) := ⟨by
    rcases hq with ⟨m, g, hm, rfl, rfl, h0⟩ | ⟨rfl, hp⟩
    · obtain ⟨b1, d1, b2, d2, b3, d3, k0, _⟩ := last_cells HN.out hm
      rw [h0] at k0
      exact last75_text _ B g m c (by have := HLA.out; omega) (by rw [← hm]; exact HV.out) k0
    · rcases Nat.eq_zero_or_pos acc.length with hz | hz
      · have := HV.out
        rw [hz] at this
        exact last75_nil _ B A c this
      · obtain ⟨g, cap, he, _⟩ := Kd.N_form HN.out hz
        injection he with he _ _
        subst he
        obtain ⟨m, hm⟩ : ∃ m, acc.length = m + 1 := ⟨acc.length - 1, by omega⟩
        obtain ⟨b1, d1, b2, d2, b3, d3, k0, _⟩ := last_cells HN.out hm
        have hne : acc ≠ [] := List.length_pos_iff.1 hz
        have hf0 : (rd_T27 acc (m : Int)).f0 = true := by
          cases e : (rd_T27 acc (m : Int)).f0 with
          | true => rfl
          | false => exact absurd ⟨hne, by rw [hm]; exact e⟩ hp
        rw [hf0] at k0
        exact last75_conf _ B g m c (by have := HLA.out; omega) (by rw [← hm]; exact HV.out) k0⟩
  have HQ := Aside0.mk hq
  clear hq
  cases hx0 : x.f0 with
  | true =>
    have HPG : Aside0 (putG acc x = acc ++ [⟨true, [], x.f2, x.f3⟩]) := ⟨by unfold putG; rw [if_pos hx0]⟩
    rw [hx0] at hbc hbf HV HN HG1 HG2 HG3 HBW HSZ HLAST
    clear hx0
    go_enter Try.func65, Try.ntmps65
    go_wp2_with (first | (go_at_call 75; (with_reducible refine HLAST.out.mono ?_); rintro e w1 ⟨rfl, rfl⟩))
    repeat (go_quiet (fail); try go_wp2)
    have hp := Go.heap_alloc_new W (.cells #[.bool true, .slice A1 x.f1.length c1, .slice A2 x.f2.length c2, .slice A3 x.f3.length c3] 27)
    have hP0 := Aside0.mk (blk_cell hp 0)
    have hP1 := Aside0.mk (blk_cell hp 1)
    have hP2 := Aside0.mk (blk_cell hp 2)
    have hP3 := Aside0.mk (blk_cell hp 3)
    have HBC := Aside0.mk hbc
    clear hp
    obtain ⟨W4, hW4⟩ : ∃ W4, W4 = (W.alloc (.cells #[.bool true, .slice A1 x.f1.length c1, .slice A2 x.f2.length c2, .slice A3 x.f3.length c3] 27)).drew := ⟨_, rfl⟩
    have HN4 : Aside0 (Kd.N k27 27 (W.alloc (.cells #[.bool true, .slice A1 x.f1.length c1, .slice A2 x.f2.length c2, .slice A3 x.f3.length c3] 27)).drew (B + 1) (okP P B) (.slice A acc.length c) acc) := ⟨Kd.N_drew HN.out⟩
    have HV4 : Aside0 (Boxed (W.alloc (.cells #[.bool true, .slice A1 x.f1.length c1, .slice A2 x.f2.length c2, .slice A3 x.f3.length c3] 27)).drew B 75 (.slice A acc.length c)) := ⟨HV.out⟩
    have HB4 : Aside0 (Below B W (W.alloc (.cells #[.bool true, .slice A1 x.f1.length c1, .slice A2 x.f2.length c2, .slice A3 x.f3.length c3] 27)).drew) := ⟨below_drew HBW.out⟩
    have HF1 : Aside0 (Kd.F Kd.string (W.alloc (.cells #[.bool true, .slice A1 x.f1.length c1, .slice A2 x.f2.length c2, .slice A3 x.f3.length c3] 27)).drew (fun k => P k ∧ k < B) A1 x.f1.length x.f1) := ⟨Kd.F_drew HG1.out⟩
    have HF2 : Aside0 (Kd.F Kd.string (W.alloc (.cells #[.bool true, .slice A1 x.f1.length c1, .slice A2 x.f2.length c2, .slice A3 x.f3.length c3] 27)).drew (fun k => P k ∧ k < B) A2 x.f2.length x.f2) := ⟨Kd.F_drew HG2.out⟩
    have HF3 : Aside0 (Kd.F (Kd.slice 9 Kd.string) (W.alloc (.cells #[.bool true, .slice A1 x.f1.length c1, .slice A2 x.f2.length c2, .slice A3 x.f3.length c3] 27)).drew (fun k => P k ∧ k < B) A3 x.f3.length x.f3) := ⟨Kd.F_drew HG3.out⟩
    have HSZ4 : Aside0 (B + 1 ≤ (W.alloc (.cells #[.bool true, .slice A1 x.f1.length c1, .slice A2 x.f2.length c2, .slice A3 x.f3.length c3] 27)).drew.heap.size) := ⟨HSZ.out⟩
    rw [← hW4] at HN4 HV4 HB4 HF1 HF2 HF3 HSZ4
    refine start_ (n := 15) (S := fun w' => w'.cell? ⟨B, 0, none⟩ = some (.slice A acc.length c) ∧ w'.cell? ⟨W.heap.size, 2, none⟩ = some (.slice A2 x.f2.length c2) ∧ w'.cell? ⟨W.heap.size, 3, none⟩ = some (.slice A3 x.f3.length c3)) (ds := [11, 14]) #[false, false, false, false, false, false, false, false, false, false, false, false, false, false, false] (by kernel_rfl) rfl rfl ⟨HBC.out, hP2.out, hP3.out⟩ (fun hHeld => ?_)
    rw [← hW4] at hHeld ⊢
    clear hW4 hbc hbf
    refine pure_ (i := 0) (N := some 22) (v := ?_) (a' := ?_) #[true, false, false, false, false, false, false, false, false, false, false, false, false, false, false] rfl rfl (by kernel_rfl) (fun _ _ _ h => h) (Or.inl ⟨by rfl, ?_⟩) ?_ ?_
    rotate_left
    · intro w'
      go_simp
      with_reducible rfl
    rotate_left
    · simp only [Act.put, List.setIfInBounds_toArray, List.set_cons_zero, List.set_cons_succ, i64_w, i32_w]
      rfl
    refine pure_ (i := 1) (N := some 23) (v := ?_) (a' := ?_) #[true, true, false, false, false, false, false, false, false, false, false, false, false, false, false] rfl rfl (by kernel_rfl) (fun _ _ _ h => h) (Or.inl ⟨by rfl, ?_⟩) ?_ ?_
    rotate_left
    · intro w'
      go_simp
      with_reducible rfl
    rotate_left
    · simp only [Act.put, List.setIfInBounds_toArray, List.set_cons_zero, List.set_cons_succ, i64_w, i32_w]
      rfl
    refine pure_ (i := 2) (N := some 24) (v := ?_) (a' := ?_) #[true, true, true, false, false, false, false, false, false, false, false, false, false, false, false] rfl rfl (by kernel_rfl) (fun _ _ _ h => h) (Or.inl ⟨by rfl, ?_⟩) ?_ ?_
    rotate_left
    · intro w'
      go_simp
      with_reducible rfl
    rotate_left
    · simp only [Act.put, List.setIfInBounds_toArray, List.set_cons_zero, List.set_cons_succ, i64_w, i32_w]
      rfl
    refine pure_ (i := 3) (N := some 25) (v := ?_) (a' := ?_) #[true, true, true, true, false, false, false, false, false, false, false, false, false, false, false] rfl rfl (by kernel_rfl) (fun _ _ _ h => h) (Or.inl ⟨by rfl, ?_⟩) ?_ ?_
    rotate_left
    · intro w'
      go_simp
      with_reducible rfl
    rotate_left
    · simp only [Act.put, List.setIfInBounds_toArray, List.set_cons_zero, List.set_cons_succ, i64_w, i32_w]
      rfl
    refine pure_ (i := 5) (N := some 27) (v := ?_) (a' := ?_) #[true, true, true, true, false, true, false, false, false, false, false, false, false, false, false] rfl rfl (by kernel_rfl) (fun _ _ _ h => h) (Or.inl ⟨by rfl, ?_⟩) ?_ ?_
    rotate_left
    · intro w'
      go_simp
      with_reducible rfl
    rotate_left
    · simp only [Act.put, List.setIfInBounds_toArray, List.set_cons_zero, List.set_cons_succ, i64_w, i32_w]
      rfl
    refine pure_ (i := 7) (N := some 29) (v := ?_) (a' := ?_) #[true, true, true, true, false, true, false, true, false, false, false, false, false, false, false] rfl rfl (by kernel_rfl) (fun _ _ _ h => h) (Or.inl ⟨by rfl, ?_⟩) ?_ ?_
    rotate_left
    · intro w'
      go_simp
      with_reducible rfl
    rotate_left
    · simp only [Act.put, List.setIfInBounds_toArray, List.set_cons_zero, List.set_cons_succ, i64_w, i32_w]
      rfl
    refine take_ (i := 4) (N := some 26) (v := ?_) (a' := ?_) #[true, true, true, true, true, true, false, true, false, false, false, false, false, false, false] rfl rfl (by kernel_rfl) (fun _ _ _ h => h) (Or.inl ⟨by rfl, ?_⟩) hHeld ?_ ?_
    rotate_left
    · rintro w' ⟨s0, s1, s2⟩
      go_simp
      with_reducible rfl
    rotate_left
    · simp only [Act.put, List.setIfInBounds_toArray, List.set_cons_zero, List.set_cons_succ, i64_w, i32_w]
      rfl
    refine take_ (i := 6) (N := some 28) (v := ?_) (a' := ?_) #[true, true, true, true, true, true, true, true, false, false, false, false, false, false, false] rfl rfl (by kernel_rfl) (fun _ _ _ h => h) (Or.inl ⟨by rfl, ?_⟩) hHeld ?_ ?_
    rotate_left
    · rintro w' ⟨s0, s1, s2⟩
      go_simp
      with_reducible rfl
    rotate_left
    · simp only [Act.put, List.setIfInBounds_toArray, List.set_cons_zero, List.set_cons_succ, i64_w, i32_w]
      rfl
    refine take_ (i := 8) (N := some 30) (v := ?_) (a' := ?_) #[true, true, true, true, true, true, true, true, true, false, false, false, false, false, false] rfl rfl (by kernel_rfl) (fun _ _ _ h => h) (Or.inl ⟨by rfl, ?_⟩) hHeld ?_ ?_
    rotate_left
    · rintro w' ⟨s0, s1, s2⟩
      go_simp
      with_reducible rfl
    rotate_left
    · simp only [Act.put, List.setIfInBounds_toArray, List.set_cons_zero, List.set_cons_succ, i64_w, i32_w]
      rfl
    refine pure_ (i := 9) (N := some 31) (v := ?_) (a' := ?_) #[true, true, true, true, true, true, true, true, true, true, false, false, false, false, false] rfl rfl (by kernel_rfl) (fun _ _ _ h => h) (Or.inl ⟨by rfl, ?_⟩) ?_ ?_
    rotate_left
    · intro w'
      go_simp
      with_reducible rfl
    rotate_left
    · simp only [Act.put, List.setIfInBounds_toArray, List.set_cons_zero, List.set_cons_succ, i64_w, i32_w]
      rfl
    refine one_ (i := 10) (N := some 32) #[true, true, true, true, true, true, true, true, true, true, true, false, false, false, false] rfl rfl (by kernel_rfl) (by decide) (fun K hK => ?_)
    obtain ⟨s0, s1, s2⟩ := hHeld
    refine value_ (w1 := ?_) (v := ?_) (by rfl) rfl ?_ ?_
    rotate_left 2
    · go_simp
      constructor
      · rfl
      · rfl
    refine hK.out _ _ ⟨cell_alloc_ _ s0, cell_alloc_ _ s1, cell_alloc_ _ s2⟩ (fun hHeld => ?_)
    clear hK K
    refine norm_ (a' := ?_) ?_ ?_
    rotate_left
    · show Act.put _ (some 32) _ = _
      simp only [Act.put, List.setIfInBounds_toArray, List.set_cons_zero, List.set_cons_succ, i64_w, i32_w]
      rfl
    refine last_ (i := 11) (N := some 33) #[true, true, true, true, true, true, true, true, true, true, true, true, false, false, false] rfl rfl (by kernel_rfl) (by decide) (fun K hK => ?_)
    refine appP_step _ (by rfl) (.tmp 26) (.tmp 32) rfl B P acc ⟨true, [], x.f2, x.f3⟩ [.bool true, .slice none 0 0, .slice A2 x.f2.length c2, .slice A3 x.f3.length c3] (.slice A acc.length c) rfl ?_ ?_ HN4.out HSZ4.out HLA.out ?_
    · show Value.slice (some ⟨W4.heap.size, 0, none⟩) 1 1 = _; rfl
    · exact k27_mkF W4 _ ⟨true, [], x.f2, x.f3⟩ (Nat.le_refl _) (Kd.F_nil _ _ _) HL.out.2.1 HF2.out HL.out.2.2 HF3.out
    intro v1 w1 hN1 hB1 hg1
    obtain ⟨A9, k9, rfl⟩ := Kd.N_slice hN1
    have hv1 := HV4.out.kept hg1 (Kd.N_ne HN4.out HV4.out (by decide))
    have hc1 := hv1.cell
    have hf1 := hv1.frozen
    have V1 := Aside0.mk hv1
    have N1 := Aside0.mk hN1
    have L1 := Aside0.mk hB1
    clear hv1 hN1 hB1 hg1
    refine hK.out _ _ ?_
    clear hK K
    refine norm_ (a' := ?_) ?_ ?_
    rotate_left
    · show Act.put _ (some 33) _ = _
      simp only [Act.put, List.setIfInBounds_toArray, List.set_cons_zero, List.set_cons_succ, i64_w, i32_w]
      rfl
    refine pure_ (i := 12) (N := some 34) (v := ?_) (a' := ?_) #[true, true, true, true, true, true, true, true, true, true, true, true, true, false, false] rfl rfl (by kernel_rfl) (fun _ _ _ h => h) (Or.inl ⟨by rfl, ?_⟩) ?_ ?_
    rotate_left
    · intro w'
      go_simp
      with_reducible rfl
    rotate_left
    · simp only [Act.put, List.setIfInBounds_toArray, List.set_cons_zero, List.set_cons_succ, i64_w, i32_w]
      rfl
    refine pure_ (i := 13) (N := some 35) (v := ?_) (a' := ?_) #[true, true, true, true, true, true, true, true, true, true, true, true, true, true, false] rfl rfl (by kernel_rfl) (fun _ _ _ h => h) (Or.inl ⟨by rfl, ?_⟩) ?_ ?_
    rotate_left
    · intro w'
      go_simp
      with_reducible rfl
    rotate_left
    · simp only [Act.put, List.setIfInBounds_toArray, List.set_cons_zero, List.set_cons_succ, i64_w, i32_w]
      rfl
    refine last_ (i := 14) (N := none) #[true, true, true, true, true, true, true, true, true, true, true, true, true, true, true] rfl rfl (by kernel_rfl) (by decide) (fun K hK => ?_)
    refine skip_ (w1 := ?_) (by rfl) rfl ?_ ?_
    rotate_left
    · go_simp
      rfl
    refine hK.out _ _ ?_
    clear hK K
    refine done_ (by kernel_rfl) ?_

    go_wp2
    first | go_end0 | (simp only [Exit.inBlock, Exit.then]; refine bodyPost_ret (results_none rfl _ _ _) rfl ?_) | refine bodyPost_ret (results_none rfl _ _ _) rfl ?_ | trace_state
    obtain ⟨y1, y2, y3⟩ := putP_box V1.out N1.out
    rw [List.length_append] at y1 y2 y3
    refine ⟨rfl, _, y1, ?_, (HB4.out.trans (L1.out.mono (by omega))).trans y3⟩
    rw [HPG.out]; exact y2
  | false =>
    rw [hx0] at hbc hbf HV HN HG1 HG2 HG3 HBW HSZ HLAST
    by_cases hx1 : x.f1 = []
    · have HPG : Aside0 (putG acc x = acc) := ⟨by unfold putG; rw [if_neg (by rw [hx0]; decide), if_pos hx1]⟩
      have hl0 : x.f1.length = 0 := by rw [hx1]; rfl
      rw [hl0] at hbc hbf HV HN HG1 HG2 HG3 HBW HSZ HLAST ⊢
      clear hx0 hx1 hl0
      go_enter Try.func65, Try.ntmps65
      go_wp2_with (first | (go_at_call 75; (with_reducible refine HLAST.out.mono ?_); rintro e w1 ⟨rfl, rfl⟩))
      repeat (go_quiet (fail); try go_wp2)
      first | go_end0 | (simp only [Exit.inBlock, Exit.then]; refine bodyPost_ret (results_none rfl _ _ _) rfl ?_) | refine bodyPost_ret (results_none rfl _ _ _) rfl ?_ | trace_state
      exact ⟨rfl, _, HV.out, by rw [HPG.out]; exact HN.out, HBW.out⟩
    · have hl0 : 0 < x.f1.length := List.length_pos_iff.2 hx1
      have e1 : ((x.f1.length : Int) == 0) = false := by rw [beq_eq_false_iff_ne]; omega
      have e2 : (x.f1.length == 0) = false := by rw [beq_eq_false_iff_ne]; omega
      have e3 : ¬ (x.f1.length = 0) := by omega
      by_cases hp : acc ≠ [] ∧ (rd_T27 acc ((acc.length - 1 : Nat) : Int)).f0 = false
      · obtain ⟨m, g, hm, rfl, rfl, h0⟩ : ∃ m g, acc.length = m + 1 ∧ A = some ⟨g, 0, none⟩ ∧ q = some ⟨g, m * 4, none⟩ ∧ (rd_T27 acc (m : Int)).f0 = false := by
          rcases HQ.out with h | ⟨_, h⟩
          · exact h
          · exact absurd hp h
        have HPG : Aside0 (putG acc x = acc.set m ⟨false, (rd_T27 acc (m : Int)).f1 ++ x.f1, (rd_T27 acc (m : Int)).f2, (rd_T27 acc (m : Int)).f3⟩) := ⟨by
          unfold putG; rw [if_neg (by rw [hx0]; decide), if_neg hx1, if_pos hp, show acc.length - 1 = m from by omega]⟩
        have HM := Aside0.mk hm
        have HTM : Aside0 ((rd_T27 acc (m : Int)).f1.length + x.f1.length ≤ 1000000) := ⟨HTX.out _ (by
          have hlt : m < acc.length := by omega
          have e : rd_T27 acc (m : Int) = acc[m] := by simp [rd_T27, List.getD_eq_getElem?_getD, hlt]
          rw [e]; exact List.getElem_mem hlt)⟩
        have H0 := Aside0.mk h0
        clear hx0 hx1 hl0 hp hm h0
        go_enter Try.func65, Try.ntmps65
        go_wp2_with (first | (go_at_call 75; (with_reducible refine HLAST.out.mono ?_); rintro e w1 ⟨rfl, rfl⟩))
        repeat (go_quiet (fail); try go_wp2)
        have hp := Go.heap_alloc_new W (.cells #[.bool false, .slice A1 x.f1.length c1, .slice A2 x.f2.length c2, .slice A3 x.f3.length c3] 27)
        have hP0 := Aside0.mk (blk_cell hp 0)
        have hP1 := Aside0.mk (blk_cell hp 1)
        have hP2 := Aside0.mk (blk_cell hp 2)
        have hP3 := Aside0.mk (blk_cell hp 3)
        have HBC := Aside0.mk hbc
        clear hp
        obtain ⟨W4, hW4⟩ : ∃ W4, W4 = (W.alloc (.cells #[.bool false, .slice A1 x.f1.length c1, .slice A2 x.f2.length c2, .slice A3 x.f3.length c3] 27)).drew := ⟨_, rfl⟩
        have HN4 : Aside0 (Kd.N k27 27 (W.alloc (.cells #[.bool false, .slice A1 x.f1.length c1, .slice A2 x.f2.length c2, .slice A3 x.f3.length c3] 27)).drew (B + 1) (okP P B) (.slice (some ⟨g, 0, none⟩) acc.length c) acc) := ⟨Kd.N_drew HN.out⟩
        have HV4 : Aside0 (Boxed (W.alloc (.cells #[.bool false, .slice A1 x.f1.length c1, .slice A2 x.f2.length c2, .slice A3 x.f3.length c3] 27)).drew B 75 (.slice (some ⟨g, 0, none⟩) acc.length c)) := ⟨HV.out⟩
        have HB4 : Aside0 (Below B W (W.alloc (.cells #[.bool false, .slice A1 x.f1.length c1, .slice A2 x.f2.length c2, .slice A3 x.f3.length c3] 27)).drew) := ⟨below_drew HBW.out⟩
        have HF1 : Aside0 (Kd.F Kd.string (W.alloc (.cells #[.bool false, .slice A1 x.f1.length c1, .slice A2 x.f2.length c2, .slice A3 x.f3.length c3] 27)).drew (fun k => P k ∧ k < B) A1 x.f1.length x.f1) := ⟨Kd.F_drew HG1.out⟩
        have HF2 : Aside0 (Kd.F Kd.string (W.alloc (.cells #[.bool false, .slice A1 x.f1.length c1, .slice A2 x.f2.length c2, .slice A3 x.f3.length c3] 27)).drew (fun k => P k ∧ k < B) A2 x.f2.length x.f2) := ⟨Kd.F_drew HG2.out⟩
        have HF3 : Aside0 (Kd.F (Kd.slice 9 Kd.string) (W.alloc (.cells #[.bool false, .slice A1 x.f1.length c1, .slice A2 x.f2.length c2, .slice A3 x.f3.length c3] 27)).drew (fun k => P k ∧ k < B) A3 x.f3.length x.f3) := ⟨Kd.F_drew HG3.out⟩
        have HSZ4 : Aside0 (B + 1 ≤ (W.alloc (.cells #[.bool false, .slice A1 x.f1.length c1, .slice A2 x.f2.length c2, .slice A3 x.f3.length c3] 27)).drew.heap.size) := ⟨HSZ.out⟩
        obtain ⟨b1, d1, b2, d2, b3, d3, k0, k1, kf, kc, m1, f1, m2, f2, m3, f3⟩ := last_cells HN4.out HM.out
        have K1 := Aside0.mk k1
        have MX := Aside0.mk m1
        have FX := Aside0.mk f1
        clear k0 k1 kf kc m1 f1 m2 f2 m3 f3
        rw [← hW4] at HN4 HV4 HB4 HF1 HF2 HF3 HSZ4 FX
        refine start_ (n := 12) (S := fun w' => w'.cell? ⟨g, m * 4 + 1, none⟩ = some (.slice b1 (rd_T27 acc (m : Int)).f1.length d1) ∧ w'.cell? ⟨W.heap.size, 1, none⟩ = some (.slice A1 x.f1.length c1)) (ds := [7, 8, 11]) #[false, false, false, false, false, false, false, false, false, false, false, false] (by kernel_rfl) rfl rfl ⟨K1.out, hP1.out⟩ (fun hHeld => ?_)
        rw [← hW4] at hHeld ⊢
        clear hW4 hbc hbf
        refine pure_ (i := 0) (N := some 44) (v := ?_) (a' := ?_) #[true, false, false, false, false, false, false, false, false, false, false, false] rfl rfl (by kernel_rfl) (fun _ _ _ h => h) (Or.inl ⟨by rfl, ?_⟩) ?_ ?_
        rotate_left
        · intro w'
          go_simp
          with_reducible rfl
        rotate_left
        · simp only [Act.put, List.setIfInBounds_toArray, List.set_cons_zero, List.set_cons_succ, i64_w, i32_w]
          rfl
        refine pure_ (i := 1) (N := some 45) (v := ?_) (a' := ?_) #[true, true, false, false, false, false, false, false, false, false, false, false] rfl rfl (by kernel_rfl) (fun _ _ _ h => h) (Or.inl ⟨by rfl, ?_⟩) ?_ ?_
        rotate_left
        · intro w'
          go_simp
          with_reducible rfl
        rotate_left
        · simp only [Act.put, List.setIfInBounds_toArray, List.set_cons_zero, List.set_cons_succ, i64_w, i32_w]
          rfl
        refine pure_ (i := 2) (N := some 46) (v := ?_) (a' := ?_) #[true, true, true, false, false, false, false, false, false, false, false, false] rfl rfl (by kernel_rfl) (fun _ _ _ h => h) (Or.inl ⟨by rfl, ?_⟩) ?_ ?_
        rotate_left
        · intro w'
          go_simp
          with_reducible rfl
        rotate_left
        · simp only [Act.put, List.setIfInBounds_toArray, List.set_cons_zero, List.set_cons_succ, i64_w, i32_w]
          rfl
        refine pure_ (i := 3) (N := some 47) (v := ?_) (a' := ?_) #[true, true, true, true, false, false, false, false, false, false, false, false] rfl rfl (by kernel_rfl) (fun _ _ _ h => h) (Or.inl ⟨by rfl, ?_⟩) ?_ ?_
        rotate_left
        · intro w'
          go_simp
          with_reducible rfl
        rotate_left
        · simp only [Act.put, List.setIfInBounds_toArray, List.set_cons_zero, List.set_cons_succ, i64_w, i32_w]
          rfl
        refine pure_ (i := 5) (N := some 49) (v := ?_) (a' := ?_) #[true, true, true, true, false, true, false, false, false, false, false, false] rfl rfl (by kernel_rfl) (fun _ _ _ h => h) (Or.inl ⟨by rfl, ?_⟩) ?_ ?_
        rotate_left
        · intro w'
          go_simp
          with_reducible rfl
        rotate_left
        · simp only [Act.put, List.setIfInBounds_toArray, List.set_cons_zero, List.set_cons_succ, i64_w, i32_w]
          rfl
        refine take_ (i := 4) (N := some 48) (v := ?_) (a' := ?_) #[true, true, true, true, true, true, false, false, false, false, false, false] rfl rfl (by kernel_rfl) (fun _ _ _ h => h) (Or.inl ⟨by rfl, ?_⟩) hHeld ?_ ?_
        rotate_left
        · rintro w' ⟨s0, s1⟩
          go_simp
          with_reducible rfl
        rotate_left
        · simp only [Act.put, List.setIfInBounds_toArray, List.set_cons_zero, List.set_cons_succ, i64_w, i32_w]
          rfl
        refine take_ (i := 6) (N := some 50) (v := ?_) (a' := ?_) #[true, true, true, true, true, true, true, false, false, false, false, false] rfl rfl (by kernel_rfl) (fun _ _ _ h => h) (Or.inl ⟨by rfl, ?_⟩) hHeld ?_ ?_
        rotate_left
        · rintro w' ⟨s0, s1⟩
          go_simp
          with_reducible rfl
        rotate_left
        · simp only [Act.put, List.setIfInBounds_toArray, List.set_cons_zero, List.set_cons_succ, i64_w, i32_w]
          rfl
        refine last_ (i := 7) (N := some 51) #[true, true, true, true, true, true, true, true, false, false, false, false] rfl rfl (by kernel_rfl) (by decide) (fun K hK => ?_)
        refine value_ (w1 := ?_) (v := ?_) (by rfl) rfl ?_ ?_
        rotate_left 2
        · go_simp
          constructor
          · rfl
          · rfl
        refine hK.out _ _ ?_
        clear hK K
        refine norm_ (a' := ?_) ?_ ?_
        rotate_left
        · show Act.put _ (some 51) _ = _
          simp only [Act.put, List.setIfInBounds_toArray, List.set_cons_zero, List.set_cons_succ, i64_w, i32_w]
          rfl
        refine last_ (i := 8) (N := some 52) #[true, true, true, true, true, true, true, true, true, false, false, false] rfl rfl (by kernel_rfl) (by decide) (fun K hK => ?_)
        refine goes_ Try.func76 (by kernel_rfl) rfl #[.slice (some ⟨W4.heap.size, 0, none⟩) 2 2] (by rfl) rfl rfl (by simp only [List.map_toArray, List.map_cons, List.map_nil]; rfl) ?_
        with_reducible refine (concat2_c W4 b1 A1 d1 c1 (rd_T27 acc (m : Int)).f1 x.f1 MX.out (Kd.F_now FX.out) HL.out.1 (Kd.F_now HF1.out) HTM.out).mono ?_
        rintro e w3 ⟨A9, c9, rfl, hm9, hg9, hb3⟩
        have N3 := Aside0.mk (Kd.N_below HN4.out hb3)
        have V3 := Aside0.mk (blk_later HV4.out hb3)
        have L3 := Aside0.mk hb3
        have M9 := Aside0.mk hm9
        have G9 := Aside0.mk hg9
        obtain ⟨b13, d13, b23, d23, b33, d33, k03, k13, kf3, kc3, m13, f13, m23, f23, m33, f33⟩ := last_cells N3.out HM.out
        have HGL : Aside0 (g < W4.heap.size) := ⟨Kd.N_lt HN4.out g (by have := HM.out; simp [Value.ownBlock])⟩
        have HGB : Aside0 (B + 1 ≤ g) := ⟨Kd.N_base HN4.out g (by have := HM.out; simp [Value.ownBlock])⟩
        clear hb3 hm9 hg9
        refine ⟨_, rfl, ?_⟩
        refine hK.out _ _ ?_
        clear hK K
        refine norm_ (a' := ?_) ?_ ?_
        rotate_left
        · show Act.put _ (some 52) _ = _
          simp only [Act.put, List.setIfInBounds_toArray, List.set_cons_zero, List.set_cons_succ, i64_w, i32_w]
          rfl
        refine pure_ (i := 9) (N := some 53) (v := ?_) (a' := ?_) #[true, true, true, true, true, true, true, true, true, true, false, false] rfl rfl (by kernel_rfl) (fun _ _ _ h => h) (Or.inl ⟨by rfl, ?_⟩) ?_ ?_
        rotate_left
        · intro w'
          go_simp
          with_reducible rfl
        rotate_left
        · simp only [Act.put, List.setIfInBounds_toArray, List.set_cons_zero, List.set_cons_succ, i64_w, i32_w]
          rfl
        refine pure_ (i := 10) (N := some 54) (v := ?_) (a' := ?_) #[true, true, true, true, true, true, true, true, true, true, true, false] rfl rfl (by kernel_rfl) (fun _ _ _ h => h) (Or.inl ⟨by rfl, ?_⟩) ?_ ?_
        rotate_left
        · intro w'
          go_simp
          with_reducible rfl
        rotate_left
        · simp only [Act.put, List.setIfInBounds_toArray, List.set_cons_zero, List.set_cons_succ, i64_w, i32_w]
          rfl
        refine last_ (i := 11) (N := none) #[true, true, true, true, true, true, true, true, true, true, true, true] rfl rfl (by kernel_rfl) (by decide) (fun K hK => ?_)
        refine skip_ (w1 := ?_) (by rfl) rfl ?_ ?_
        rotate_left
        · go_simp
          rfl
        refine hK.out _ _ ?_
        clear hK K
        refine done_ (by kernel_rfl) ?_

        go_wp2
        first | go_end0 | (simp only [Exit.inBlock, Exit.then]; refine bodyPost_ret (results_none rfl _ _ _) rfl ?_) | refine bodyPost_ret (results_none rfl _ _ _) rfl ?_ | trace_state
        have h3 := last_put N3.out HM.out kc3 M9.out (Kd.F_mono G9.out (fun k hk => ⟨.inr (by have := HSZ4.out; omega), fun e => by have := HGL.out; omega⟩)) m23 f23 m33 f33
        rw [H0.out] at h3
        simp only [List.length_append] at h3
        rw [HPG.out]
        refine ⟨rfl, _, (Below.heap_setCell _ ⟨g, m * 4 + 1, none⟩ _ B (fun e => by have := HGB.out; have : B = g := e; omega)).trans V3.out, h3, (HB4.out.trans (L3.out.mono (by have := HSZ4.out; omega))).trans ((Below.refl _ _).setCell (p := ⟨g, m * 4 + 1, none⟩) (by show B ≤ g; have := HGB.out; omega) _)⟩
      · have hq0 : q = none := by
          rcases HQ.out with ⟨m, g, hm, h1, h2, h3⟩ | h
          · exact absurd ⟨by intro e; rw [e] at hm; simp at hm, by rw [hm]; exact h3⟩ hp
          · exact h.1
        subst hq0
        have HPG : Aside0 (putG acc x = acc ++ [⟨false, x.f1, [], []⟩]) := ⟨by
          unfold putG; rw [if_neg (by rw [hx0]; decide), if_neg hx1, if_neg hp]⟩
        clear hx0 hx1 hl0 hp
        go_enter Try.func65, Try.ntmps65
        go_wp2_with (first | (go_at_call 75; (with_reducible refine HLAST.out.mono ?_); rintro e w1 ⟨rfl, rfl⟩))
        repeat (go_quiet (fail); try go_wp2)
        have hp := Go.heap_alloc_new W (.cells #[.bool false, .slice A1 x.f1.length c1, .slice A2 x.f2.length c2, .slice A3 x.f3.length c3] 27)
        have hP0 := Aside0.mk (blk_cell hp 0)
        have hP1 := Aside0.mk (blk_cell hp 1)
        have hP2 := Aside0.mk (blk_cell hp 2)
        have hP3 := Aside0.mk (blk_cell hp 3)
        have HBC := Aside0.mk hbc
        clear hp
        obtain ⟨W4, hW4⟩ : ∃ W4, W4 = (W.alloc (.cells #[.bool false, .slice A1 x.f1.length c1, .slice A2 x.f2.length c2, .slice A3 x.f3.length c3] 27)).drew := ⟨_, rfl⟩
        have HN4 : Aside0 (Kd.N k27 27 (W.alloc (.cells #[.bool false, .slice A1 x.f1.length c1, .slice A2 x.f2.length c2, .slice A3 x.f3.length c3] 27)).drew (B + 1) (okP P B) (.slice A acc.length c) acc) := ⟨Kd.N_drew HN.out⟩
        have HV4 : Aside0 (Boxed (W.alloc (.cells #[.bool false, .slice A1 x.f1.length c1, .slice A2 x.f2.length c2, .slice A3 x.f3.length c3] 27)).drew B 75 (.slice A acc.length c)) := ⟨HV.out⟩
        have HB4 : Aside0 (Below B W (W.alloc (.cells #[.bool false, .slice A1 x.f1.length c1, .slice A2 x.f2.length c2, .slice A3 x.f3.length c3] 27)).drew) := ⟨below_drew HBW.out⟩
        have HF1 : Aside0 (Kd.F Kd.string (W.alloc (.cells #[.bool false, .slice A1 x.f1.length c1, .slice A2 x.f2.length c2, .slice A3 x.f3.length c3] 27)).drew (fun k => P k ∧ k < B) A1 x.f1.length x.f1) := ⟨Kd.F_drew HG1.out⟩
        have HF2 : Aside0 (Kd.F Kd.string (W.alloc (.cells #[.bool false, .slice A1 x.f1.length c1, .slice A2 x.f2.length c2, .slice A3 x.f3.length c3] 27)).drew (fun k => P k ∧ k < B) A2 x.f2.length x.f2) := ⟨Kd.F_drew HG2.out⟩
        have HF3 : Aside0 (Kd.F (Kd.slice 9 Kd.string) (W.alloc (.cells #[.bool false, .slice A1 x.f1.length c1, .slice A2 x.f2.length c2, .slice A3 x.f3.length c3] 27)).drew (fun k => P k ∧ k < B) A3 x.f3.length x.f3) := ⟨Kd.F_drew HG3.out⟩
        have HSZ4 : Aside0 (B + 1 ≤ (W.alloc (.cells #[.bool false, .slice A1 x.f1.length c1, .slice A2 x.f2.length c2, .slice A3 x.f3.length c3] 27)).drew.heap.size) := ⟨HSZ.out⟩
        rw [← hW4] at HN4 HV4 HB4 HF1 HF2 HF3 HSZ4
        refine start_ (n := 13) (S := fun w' => w'.cell? ⟨B, 0, none⟩ = some (.slice A acc.length c) ∧ w'.cell? ⟨W.heap.size, 1, none⟩ = some (.slice A1 x.f1.length c1)) (ds := [9, 12]) #[false, false, false, false, false, false, false, false, false, false, false, false, false] (by kernel_rfl) rfl rfl ⟨HBC.out, hP1.out⟩ (fun hHeld => ?_)
        rw [← hW4] at hHeld ⊢
        clear hW4 hbc hbf
        refine pure_ (i := 0) (N := some 7) (v := ?_) (a' := ?_) #[true, false, false, false, false, false, false, false, false, false, false, false, false] rfl rfl (by kernel_rfl) (fun _ _ _ h => h) (Or.inl ⟨by rfl, ?_⟩) ?_ ?_
        rotate_left
        · intro w'
          go_simp
          with_reducible rfl
        rotate_left
        · simp only [Act.put, List.setIfInBounds_toArray, List.set_cons_zero, List.set_cons_succ, i64_w, i32_w]
          rfl
        refine pure_ (i := 1) (N := some 8) (v := ?_) (a' := ?_) #[true, true, false, false, false, false, false, false, false, false, false, false, false] rfl rfl (by kernel_rfl) (fun _ _ _ h => h) (Or.inl ⟨by rfl, ?_⟩) ?_ ?_
        rotate_left
        · intro w'
          go_simp
          with_reducible rfl
        rotate_left
        · simp only [Act.put, List.setIfInBounds_toArray, List.set_cons_zero, List.set_cons_succ, i64_w, i32_w]
          rfl
        refine pure_ (i := 2) (N := some 9) (v := ?_) (a' := ?_) #[true, true, true, false, false, false, false, false, false, false, false, false, false] rfl rfl (by kernel_rfl) (fun _ _ _ h => h) (Or.inl ⟨by rfl, ?_⟩) ?_ ?_
        rotate_left
        · intro w'
          go_simp
          with_reducible rfl
        rotate_left
        · simp only [Act.put, List.setIfInBounds_toArray, List.set_cons_zero, List.set_cons_succ, i64_w, i32_w]
          rfl
        refine pure_ (i := 3) (N := some 10) (v := ?_) (a' := ?_) #[true, true, true, true, false, false, false, false, false, false, false, false, false] rfl rfl (by kernel_rfl) (fun _ _ _ h => h) (Or.inl ⟨by rfl, ?_⟩) ?_ ?_
        rotate_left
        · intro w'
          go_simp
          with_reducible rfl
        rotate_left
        · simp only [Act.put, List.setIfInBounds_toArray, List.set_cons_zero, List.set_cons_succ, i64_w, i32_w]
          rfl
        refine pure_ (i := 5) (N := some 12) (v := ?_) (a' := ?_) #[true, true, true, true, false, true, false, false, false, false, false, false, false] rfl rfl (by kernel_rfl) (fun _ _ _ h => h) (Or.inl ⟨by rfl, ?_⟩) ?_ ?_
        rotate_left
        · intro w'
          go_simp
          with_reducible rfl
        rotate_left
        · simp only [Act.put, List.setIfInBounds_toArray, List.set_cons_zero, List.set_cons_succ, i64_w, i32_w]
          rfl
        refine take_ (i := 4) (N := some 11) (v := ?_) (a' := ?_) #[true, true, true, true, true, true, false, false, false, false, false, false, false] rfl rfl (by kernel_rfl) (fun _ _ _ h => h) (Or.inl ⟨by rfl, ?_⟩) hHeld ?_ ?_
        rotate_left
        · rintro w' ⟨s0, s1⟩
          go_simp
          with_reducible rfl
        rotate_left
        · simp only [Act.put, List.setIfInBounds_toArray, List.set_cons_zero, List.set_cons_succ, i64_w, i32_w]
          rfl
        refine take_ (i := 6) (N := some 13) (v := ?_) (a' := ?_) #[true, true, true, true, true, true, true, false, false, false, false, false, false] rfl rfl (by kernel_rfl) (fun _ _ _ h => h) (Or.inl ⟨by rfl, ?_⟩) hHeld ?_ ?_
        rotate_left
        · rintro w' ⟨s0, s1⟩
          go_simp
          with_reducible rfl
        rotate_left
        · simp only [Act.put, List.setIfInBounds_toArray, List.set_cons_zero, List.set_cons_succ, i64_w, i32_w]
          rfl
        refine pure_ (i := 7) (N := some 14) (v := ?_) (a' := ?_) #[true, true, true, true, true, true, true, true, false, false, false, false, false] rfl rfl (by kernel_rfl) (fun _ _ _ h => h) (Or.inl ⟨by rfl, ?_⟩) ?_ ?_
        rotate_left
        · intro w'
          go_simp
          with_reducible rfl
        rotate_left
        · simp only [Act.put, List.setIfInBounds_toArray, List.set_cons_zero, List.set_cons_succ, i64_w, i32_w]
          rfl
        refine one_ (i := 8) (N := some 15) #[true, true, true, true, true, true, true, true, true, false, false, false, false] rfl rfl (by kernel_rfl) (by decide) (fun K hK => ?_)
        obtain ⟨s0, s1⟩ := hHeld
        refine value_ (w1 := ?_) (v := ?_) (by rfl) rfl ?_ ?_
        rotate_left 2
        · go_simp
          constructor
          · rfl
          · rfl
        refine hK.out _ _ ⟨cell_alloc_ _ s0, cell_alloc_ _ s1⟩ (fun hHeld => ?_)
        clear hK K
        refine norm_ (a' := ?_) ?_ ?_
        rotate_left
        · show Act.put _ (some 15) _ = _
          simp only [Act.put, List.setIfInBounds_toArray, List.set_cons_zero, List.set_cons_succ, i64_w, i32_w]
          rfl
        refine last_ (i := 9) (N := some 16) #[true, true, true, true, true, true, true, true, true, true, false, false, false] rfl rfl (by kernel_rfl) (by decide) (fun K hK => ?_)
        refine appP_step _ (by rfl) (.tmp 11) (.tmp 15) rfl B P acc ⟨false, x.f1, [], []⟩ [.bool false, .slice A1 x.f1.length c1, .slice none 0 0, .slice none 0 0] (.slice A acc.length c) rfl ?_ ?_ HN4.out HSZ4.out HLA.out ?_
        · show Value.slice (some ⟨W4.heap.size, 0, none⟩) 1 1 = _; rfl
        · exact k27_mkF W4 _ ⟨false, x.f1, [], []⟩ HL.out.1 HF1.out (Nat.le_refl _) (Kd.F_nil _ _ _) (Nat.le_refl _) (Kd.F_nil _ _ _)
        intro v1 w1 hN1 hB1 hg1
        obtain ⟨A9, k9, rfl⟩ := Kd.N_slice hN1
        have hv1 := HV4.out.kept hg1 (Kd.N_ne HN4.out HV4.out (by decide))
        have hc1 := hv1.cell
        have hf1 := hv1.frozen
        have V1 := Aside0.mk hv1
        have N1 := Aside0.mk hN1
        have L1 := Aside0.mk hB1
        clear hv1 hN1 hB1 hg1
        refine hK.out _ _ ?_
        clear hK K
        refine norm_ (a' := ?_) ?_ ?_
        rotate_left
        · show Act.put _ (some 16) _ = _
          simp only [Act.put, List.setIfInBounds_toArray, List.set_cons_zero, List.set_cons_succ, i64_w, i32_w]
          rfl
        refine pure_ (i := 10) (N := some 17) (v := ?_) (a' := ?_) #[true, true, true, true, true, true, true, true, true, true, true, false, false] rfl rfl (by kernel_rfl) (fun _ _ _ h => h) (Or.inl ⟨by rfl, ?_⟩) ?_ ?_
        rotate_left
        · intro w'
          go_simp
          with_reducible rfl
        rotate_left
        · simp only [Act.put, List.setIfInBounds_toArray, List.set_cons_zero, List.set_cons_succ, i64_w, i32_w]
          rfl
        refine pure_ (i := 11) (N := some 18) (v := ?_) (a' := ?_) #[true, true, true, true, true, true, true, true, true, true, true, true, false] rfl rfl (by kernel_rfl) (fun _ _ _ h => h) (Or.inl ⟨by rfl, ?_⟩) ?_ ?_
        rotate_left
        · intro w'
          go_simp
          with_reducible rfl
        rotate_left
        · simp only [Act.put, List.setIfInBounds_toArray, List.set_cons_zero, List.set_cons_succ, i64_w, i32_w]
          rfl
        refine last_ (i := 12) (N := none) #[true, true, true, true, true, true, true, true, true, true, true, true, true] rfl rfl (by kernel_rfl) (by decide) (fun K hK => ?_)
        refine skip_ (w1 := ?_) (by rfl) rfl ?_ ?_
        rotate_left
        · go_simp
          rfl
        refine hK.out _ _ ?_
        clear hK K
        refine done_ (by kernel_rfl) ?_

        go_wp2
        first | go_end0 | (simp only [Exit.inBlock, Exit.then]; refine bodyPost_ret (results_none rfl _ _ _) rfl ?_) | refine bodyPost_ret (results_none rfl _ _ _) rfl ?_ | trace_state
        obtain ⟨y1, y2, y3⟩ := putP_box V1.out N1.out
        rw [List.length_append] at y1 y2 y3
        refine ⟨rfl, _, y1, ?_, (HB4.out.trans (L1.out.mono (by omega))).trans y3⟩
        rw [HPG.out]; exact y2
end Go.Proofs.Ytiaoppikdgoieaa.M
namespace Go.Proofs.Ytiaoppikdgoieaa.M
open Go.RowKit Go.Proofs Go.Proofs.YtiaoppikdgoieaaW.PrintWords Go.Proofs.YtiaoppikdgoieaaW.PrintLast Go.Proofs.YtiaoppikdgoieaaW.PrintMore Go.Proofs.Ytiaoppikdgoieaa.Hand
attribute [local go_sem] Oper.semAt_some
set_option linter.unusedVariables false
set_option linter.unusedSimpArgs false

def normG (l : List S27) : List S27 := l.foldl putG []
theorem normG_snoc (l : List S27) (i : Nat) (x : S27) (h : l[i]? = some x) : normG (l.take (i + 1)) = putG (normG (l.take i)) x := by
  unfold normG
  rw [take_snoc l i x h, List.foldl_append]; rfl
theorem putG_len (acc : List S27) (x : S27) : (putG acc x).length ≤ acc.length + 1 := by
  unfold putG
  split
  · simp
  · split
    · omega
    · split <;> simp
theorem rd_T27_mem {acc : List S27} (h : acc ≠ []) : rd_T27 acc ((acc.length - 1 : Nat) : Int) ∈ acc := by
  have hp : 0 < acc.length := List.length_pos_iff.2 h
  have hlt : acc.length - 1 < acc.length := by omega
  have e : rd_T27 acc ((acc.length - 1 : Nat) : Int) = acc[acc.length - 1] := by simp [rd_T27, List.getD_eq_getElem?_getD, hlt]
  rw [e]; exact List.getElem_mem hlt
theorem putG_text {acc : List S27} {x : S27} {M : Nat} (h : ∀ q ∈ acc, q.f1.length ≤ M) : ∀ q ∈ putG acc x, q.f1.length ≤ M + x.f1.length := by
  intro q hq
  unfold putG at hq
  split at hq
  · rcases List.mem_append.1 hq with hq | hq
    · have := h q hq; omega
    · rw [List.mem_singleton.1 hq]; simp
  · split at hq
    · have := h q hq; omega
    · split at hq
      · next hc =>
        rcases List.mem_or_eq_of_mem_set hq with hq | hq
        · have := h q hq; omega
        · rw [hq]
          have := h _ (rd_T27_mem hc.1)
          simp only [List.length_append]; omega
      · rcases List.mem_append.1 hq with hq | hq
        · have := h q hq; omega
        · rw [List.mem_singleton.1 hq]; simp
def textsN (l : List S27) : Nat := (l.map (fun p => p.f1.length)).sum
theorem textsN_snoc (l : List S27) (i : Nat) (x : S27) (h : l[i]? = some x) : textsN (l.take (i + 1)) = textsN (l.take i) + x.f1.length := by
  unfold textsN
  rw [take_snoc l i x h]; simp
theorem textsN_pre (l : List S27) (i : Nat) : textsN (l.take i) ≤ textsN l := by
  have e : textsN l = textsN (l.take i) + textsN (l.drop i) := by
    unfold textsN
    rw [← List.sum_append, ← List.map_append, List.take_append_drop]
  omega
/-- A piece, of a list that is told with what it leads to. -/
theorem F_piece {W : World} {ok : Nat → Prop} {A : Option Addr} {n : Nat} {xs : List S27} (h : Kd.F k27 W ok A n xs) (i : Nat) (x : S27) (hx : xs[i]? = some x) :
    ∃ ad A1 c1 A2 c2 A3 c3, A = some ad ∧ W.cell? (ad.add (i * 4)) = some (.bool x.f0) ∧ W.cell? ⟨(ad.add (i * 4)).block, (ad.add (i * 4)).off + 1, none⟩ = some (.slice A1 x.f1.length c1) ∧ W.cell? ⟨(ad.add (i * 4)).block, (ad.add (i * 4)).off + 2, none⟩ = some (.slice A2 x.f2.length c2) ∧ W.cell? ⟨(ad.add (i * 4)).block, (ad.add (i * 4)).off + 3, none⟩ = some (.slice A3 x.f3.length c3) ∧
      x.f1.length ≤ c1 ∧ Kd.F Kd.string W ok A1 x.f1.length x.f1 ∧ x.f2.length ≤ c2 ∧ Kd.F Kd.string W ok A2 x.f2.length x.f2 ∧ x.f3.length ≤ c3 ∧ Kd.F (Kd.slice 9 Kd.string) W ok A3 x.f3.length x.f3 := by
  have hi : i < xs.length := (List.getElem?_eq_some_iff.1 hx).1
  obtain ⟨ad, c, e, _, hK, hc0, _⟩ := Kd.F_get h z27 (i : Int) (by omega) (by have := Kd.F_len h; omega)
  have hc : ∀ j u, c[j]? = some u → W.cell? (ad.add (i * 4 + j)) = some u := hc0
  rw [Int.toNat_natCast, List.getD_eq_getElem?_getD, hx] at hK
  obtain ⟨A1, c1, A2, c2, A3, c3, rfl, l1, g1, l2, g2, l3, g3⟩ := k27_openF hK
  exact ⟨ad, A1, c1, A2, c2, A3, c3, e, hc 0 _ rfl, by rw [← add_field _ _ 1 (by omega)]; exact hc 1 _ rfl, by rw [← add_field _ _ 2 (by omega)]; exact hc 2 _ rfl, by rw [← add_field _ _ 3 (by omega)]; exact hc 3 _ rfl, l1, g1, l2, g2, l3, g3⟩

set_option maxHeartbeats 4000000 in
set_option maxRecDepth 100000 in
theorem each65_c (w : World) (P : Nat → Prop) (A0 : Option Addr) (c0 : Nat) (l0 : List S27) (hf0 : Kd.F k27 w (fun k => P k ∧ k < w.heap.size) A0 l0.length l0) (W : World) (hB0 : Below w.heap.size w W) (hv0 : Boxed W w.heap.size 75 (.slice none 0 0)) (hlen : l0.length ≤ 1000000) (htx : textsN l0 ≤ 1000000) :
    Calls Try.prog 64 #[.slice A0 l0.length c0, .func (.func 65) #[.pointer (some ⟨w.heap.size, 0, none⟩)] #[]] W fun e w' => e = .returned (.tuple #[]) ∧ ∃ v', Boxed w' w.heap.size 75 v' ∧ Kd.N k27 27 w' (w.heap.size + 1) (okP P w.heap.size) v' (normG l0) ∧ Below w.heap.size w w' := by
  have F0 := Aside0.mk hf0
  have HV0 := Aside0.mk hv0
  have HB0 := Aside0.mk hB0
  have HL := Aside0.mk hlen
  have HTX := Aside0.mk htx
  clear hf0 hv0 hB0 hlen htx
  go_enter Try.func64, Try.ntmps64
  go_wp2
  go_loopg [8] l0.length (fun kq v8 wr => ∃ (i : Nat) (v : Value), v8 = .int .i64 (i : Int) ∧ Aside0 (i ≤ l0.length ∧ kq = l0.length - i) ∧ Aside0 (Boxed wr w.heap.size 75 v) ∧ Aside0 (Kd.N k27 27 wr (w.heap.size + 1) (okP P w.heap.size) v (normG (l0.take i))) ∧ Aside0 (Below w.heap.size w wr) ∧ Aside0 ((normG (l0.take i)).length ≤ i ∧ ∀ q ∈ normG (l0.take i), q.f1.length ≤ textsN (l0.take i)))
  case atStart => exact ⟨0, _, rfl, ⟨Nat.zero_le _, rfl⟩, HV0, ⟨Kd.N_nil _ _ _ _ _⟩, HB0, ⟨by simp [normG]⟩⟩
  case round =>
    clear HV0 HB0
    obtain ⟨i, v, rfl, HI, HV, HN, HB, HQ⟩ := hrel
    by_cases c4 : i < l0.length
    · have c4b0 : decide ((i : Int) < (l0.length : Int)) = true := decide_eq_true (by omega)
      have c4b1 : decide (i < l0.length) = true := decide_eq_true c4
      obtain ⟨z, g0⟩ : ∃ z, l0[i]? = some z := ⟨_, List.getElem?_eq_getElem c4⟩
      obtain ⟨ad, A1, c1, A2, c2, A3, c3, rfl, hx0, hx1, hx2, hx3, hl1, hf1, hl2, hf2, hl3, hf3⟩ := F_piece (Kd.F_below F0.out HB.out) i z g0
      have HSN := Aside0.mk (normG_snoc l0 i z g0)
      have HTN := Aside0.mk (textsN_snoc l0 i z g0)
      have HTP := Aside0.mk (textsN_pre l0 (i + 1))
      have X1 := Aside0.mk hf1
      have X2 := Aside0.mk hf2
      have X3 := Aside0.mk hf3
      have LL := Aside0.mk (And.intro hl1 (And.intro hl2 hl3))
      have HW2 : Aside0 (wrap64 ((i : Int) + 1) = ((i + 1 : Nat) : Int)) := ⟨by have := HL.out; unfold wrap64; omega⟩
      clear hf1 hf2 hf3 hl1 hl2 hl3 g0
      go_wp2_with (go_at_call 65; (with_reducible refine (put65_c P w.heap.size _ (normG (l0.take i)) v z A1 c1 A2 c2 A3 c3 ?hv ?hN ?ha ?ht LL.out.1 ?h1 LL.out.2.1 ?h2 LL.out.2.2 ?h3).mono ?_); (case hv => exact blk_later HV.out (below_alloc (Below.refl _ _) _)); (case hN => exact Kd.N_alloc HN.out _); (case ha => have := HQ.out.1; have := HL.out; omega); (case ht => intro q hq; have := HQ.out.2 q hq; have h1 := HTP.out; have h2 := HTX.out; rw [HTN.out] at h1; omega); (case h1 => exact Kd.F_alloc X1.out _); (case h2 => exact Kd.F_alloc X2.out _); (case h3 => exact Kd.F_alloc X3.out _); rintro e w' ⟨rfl, v', hv2, hN2, hb2⟩; rw [← HSN.out] at hN2; have n1 := Aside0.mk hv2; have n2 := Aside0.mk hN2; have n3 := Aside0.mk ((below_alloc HB.out _).trans hb2); clear hv2 hN2 hb2)
      go_roundg (l0.length - (i + 1))
      case measure => have := HI.out; omega
      case rel => exact ⟨i + 1, v', by first | rfl | (simp only [i64_w]; rw [HW2.out]) | (rw [HW2.out]), ⟨by omega, rfl⟩, n1, n2, n3, ⟨by rw [HSN.out]; have := putG_len (normG (l0.take i)) z; have := HQ.out.1; omega, by rw [HSN.out, HTN.out]; exact putG_text HQ.out.2⟩⟩
    · have c4b0 : decide ((i : Int) < (l0.length : Int)) = false := decide_eq_false (by omega)
      have c4b1 : decide (i < l0.length) = false := decide_eq_false c4
      have HT := Aside0.mk (List.take_of_length_le (l := l0) (i := i) (by omega))
      rw [HT.out] at HN
      clear c4
      go_wp2
      first | go_end0 | (simp only [Exit.inBlock, Exit.then]; refine bodyPost_ret (results_none rfl _ _ _) rfl ?_) | refine bodyPost_ret (results_none rfl _ _ _) rfl ?_ | trace_state
      exact ⟨rfl, v, HV.out, HN.out, HB.out⟩

def pick_Normal.f (k : Nat) (l0 : List S27) : Option (List S27) := if l0.length ≤ 1000000 ∧ textsN l0 ≤ 1000000 then some (normG l0) else none
theorem pick_Normal.mono : ∀ a0 k, LeO (pick_Normal.f k a0) (pick_Normal.f (k + 1) a0) := fun _ _ => LeO.refl _
set_option maxHeartbeats 1000000 in
set_option maxRecDepth 100000 in
theorem pick_Normal.calls (k : Nat) (P0_ : Nat → Prop) (A0 : Option Addr) (c0 : Nat) (l0 : List S27) (r : List S27) (w : World) (hs0 : Kd.V k27 27 w w.heap.size (fun k_ => P0_ k_) (.slice A0 l0.length c0) l0) (h : pick_Normal.f k l0 = some r) :
    Calls Try.prog 40 #[.slice A0 l0.length c0] w fun e w' => ∃ v0_ : Value, e = .returned (v0_) ∧ Kd.N k27 27 w' w.heap.size (fun k_ => (P0_ k_ ∨ w.heap.size ≤ k_)) v0_ r ∧ Below w.heap.size w w' := by
  unfold pick_Normal.f at h
  by_cases hb : l0.length ≤ 1000000 ∧ textsN l0 ≤ 1000000
  · rw [if_pos hb] at h
    obtain rfl := Option.some.inj h
    have HEC := Aside0.mk (each65_c w P0_ A0 c0 l0 (Kd.F_bound (Kd.V_at hs0).2.2) (w.alloc (.cells #[.slice none 0 0] 75)) (below_alloc (Below.refl _ _) _) (Go.heap_alloc_new w _) hb.1 hb.2)
    clear hs0 hb h
    go_enter Try.func40, Try.ntmps40
    go_wp2_with (go_at_call 64; (with_reducible refine HEC.out.mono ?_); rintro e w' ⟨rfl, v, hv, hN, hb⟩; have hvc := hv.cell; have HN := Aside0.mk hN; have HB := Aside0.mk hb; clear hv hN hb)
    go_ret
    exact ⟨v, rfl, Kd.N_mono (Kd.N_lower HN.out (by omega)) (fun k hk => by rcases hk with hk | hk; exact .inl hk.1; exact .inr (by omega)), HB.out⟩
  · rw [if_neg hb] at h
    exact absurd h (by simp)
end Go.Proofs.Ytiaoppikdgoieaa.M
