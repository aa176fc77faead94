/- Texts of the claim AlignTurns, put together (part 8): align: the closures of Align, and where a run of stable places ends. align: cutter.to: a chunk cut up to some places. align: the chunks, as a Lean function. align.Align: what it computes, and that the machine's call does so. By a program of this session: a Go function as a Lean function, and that the machine's call does what it says. By a program of this session: a Go function as a Lean function, and that the machine's call does what it says. -/
import Derived.ArgAppend
import Derived.Below
import Derived.BigQuiet
import Derived.Deep.AppendLies
import Derived.Deep.CutBlock
import Derived.Deep.DeepCutAuto
import Derived.Deep.DrawnRows
import Derived.Deep.Draws
import Derived.Deep.LoopGhost
import Derived.Deep.OwnRows
import Derived.Deep.QuietTactic
import Derived.Deep.RegionHeld3
import Derived.KernelRfl
import Derived.Laws.BitsLemmas
import Derived.Laws.BytesArg
import Derived.Laws.IdiomCopy
import Derived.Laws.MakeOwn
import Derived.Laws.OwnMore
import Derived.Laws.Rows
import Derived.Laws.Slices
import Derived.Laws.StructEq
import Derived.Lib.AppendStr
import Derived.Lib.ConvBytes
import Derived.Maps.AppendAt
import Derived.OrdersHeld
import Derived.OwnWalk
import Derived.RowKit
import Derived.RowKit3
import Derived.Tactics
import Derived.Test.YtnebadlakmlkkaaProg
import Derived.WalkKit
import Derived.WalkMore
import Derived.WideLaws
import Derived.Test.YtnebadlakmlkkaaAlignTurnsQ7
namespace Go.Proofs.Ytnebadlakmlkkaa.M
open Go.RowKit Go.Proofs.Ytnebadlakmlkkaa.Hand Go.Proofs.YtnebadlakmlkkaaW.PrintWords Go.Proofs.YtnebadlakmlkkaaW.PrintLast Go.Proofs.YtnebadlakmlkkaaW.PrintMore
set_option linter.unusedVariables false
set_option linter.unusedSimpArgs false

theorem C_num {w : World} {A : Option Addr} {n : Nat} {xs : List Int} (h : Kd.C (Kd.int .i64) w A n xs) (i : Nat) (x : Int) (hx : xs[i]? = some x) :
    ∃ ad, A = some ad ∧ w.cell? (ad.add i) = some (.int .i64 x) := by
  have hi : i < xs.length := (List.getElem?_eq_some_iff.1 hx).1
  obtain ⟨ad, e, hc⟩ := Kd.at_int h (i : Int) (by omega) (by have := h.1; omega)
  rw [Int.toNat_natCast, show rd xs (i : Int) = x from by simp [rd, List.getD_eq_getElem?_getD, hx]] at hc
  exact ⟨ad, e, hc⟩
theorem getD_at {α : Type} (M : List α) (d : α) (i : Nat) (h : i < M.length) : M[i]? = some (M.getD i d) := by
  rw [List.getD_eq_getElem?_getD, List.getElem?_eq_getElem h]; rfl

set_option maxHeartbeats 1000000 in
theorem at43_c (W : World) (bm bk : Nat) (A : Option Addr) (c : Nat) (M : List (List Int)) (i k : Nat) (h1 : W.cell? ⟨bm, 0, none⟩ = some (.slice A M.length c)) (h2 : W.cell? ⟨bk, 0, none⟩ = some (.int .i64 (k : Int)))
    (hM : Kd.C (Kd.slice 3 (Kd.int .i64)) W A M.length M) (hi : i < M.length) (hk : k < (M.getD i []).length) :
    Calls Try.prog 43 #[.int .i64 (i : Int), .pointer (some ⟨bm, 0, none⟩), .pointer (some ⟨bk, 0, none⟩)] W fun e w' => e = .returned (.int .i64 ((M.getD i []).getD k 0)) ∧ Drawn0 W w' := by
  obtain ⟨ad, A1, c1, rfl, hx, hl1, hC1⟩ := C_row hM i _ (getD_at M [] i hi)
  obtain ⟨ad1, rfl, hy⟩ := C_num hC1 k _ (getD_at _ 0 k hk)
  generalize (M.getD i []).getD k 0 = x at hy
  generalize (M.getD i []).length = ll at hx hk hl1
  generalize M.length = ml at h1 hi
  have b1 : (i : Int) < (ml : Int) := by omega
  have b2 : (k : Int) < (ll : Int) := by omega
  clear hC1 hM
  go_enter Try.func43, Try.ntmps43
  go_wp2
  go_quiet (fail)
  go_wp2
  go_ret
  exact ⟨rfl, ⟨_, rfl⟩⟩
set_option maxHeartbeats 1000000 in
theorem at44_c (W : World) (bm bk : Nat) (A : Option Addr) (c : Nat) (M : List (List Int)) (i k : Nat) (h1 : W.cell? ⟨bm, 0, none⟩ = some (.slice A M.length c)) (h2 : W.cell? ⟨bk, 0, none⟩ = some (.int .i64 ((k + 1 : Nat) : Int)))
    (hM : Kd.C (Kd.slice 3 (Kd.int .i64)) W A M.length M) (hi : i < M.length) (hk : k < (M.getD i []).length) (hk6 : k < 1000000) :
    Calls Try.prog 44 #[.int .i64 (i : Int), .pointer (some ⟨bm, 0, none⟩), .pointer (some ⟨bk, 0, none⟩)] W fun e w' => e = .returned (.int .i64 (wrap64 ((M.getD i []).getD k 0 + 1))) ∧ Drawn0 W w' := by
  obtain ⟨ad, A1, c1, rfl, hx, hl1, hC1⟩ := C_row hM i _ (getD_at M [] i hi)
  obtain ⟨ad1, rfl, hy⟩ := C_num hC1 k _ (getD_at _ 0 k hk)
  generalize (M.getD i []).getD k 0 = x at hy ⊢
  generalize (M.getD i []).length = ll at hx hk hl1
  generalize M.length = ml at h1 hi
  have b1 : (i : Int) < (ml : Int) := by omega
  have b2 : (k : Int) < (ll : Int) := by omega
  have w1 : IntKind.i64.wrap (((k + 1 : Nat) : Int) - 1) = (k : Int) := by rw [i64_w]; unfold wrap64; omega
  clear hC1 hM
  generalize ((k + 1 : Nat) : Int) = k1 at h2 w1
  go_enter Try.func44, Try.ntmps44
  go_wp2
  go_quiet (fail)
  go_wp2
  go_ret
  exact ⟨by first | rfl | (simp only [i64_w]; rfl), ⟨_, rfl⟩⟩
set_option maxHeartbeats 1000000 in
theorem at45_c (W : World) (bs : Nat) (A : Option Addr) (c : Nat) (zs : List Int) (i : Nat) (h1 : W.cell? ⟨bs, 0, none⟩ = some (.slice A zs.length c)) (hM : Kd.C (Kd.int .i64) W A zs.length zs) (hi : i < zs.length) :
    Calls Try.prog 45 #[.int .i64 (i : Int), .pointer (some ⟨bs, 0, none⟩)] W fun e w' => e = .returned (.int .i64 (zs.getD i 0)) ∧ Drawn0 W w' := by
  obtain ⟨ad, rfl, hx⟩ := C_num hM i _ (getD_at zs 0 i hi)
  generalize zs.getD i 0 = x at hx
  generalize zs.length = ml at h1 hi
  have b1 : (i : Int) < (ml : Int) := by omega
  clear hM
  go_enter Try.func45, Try.ntmps45
  go_wp2
  go_ret
  exact ⟨rfl, Drawn0.refl _⟩

/-- What the matches say at a place. -/
def stabB (M : List (List Int)) (k : Nat) : Bool := M.all (fun l => !decide (l.getD k 0 < 0))
def contB (M : List (List Int)) (k : Nat) : Bool := M.all (fun l => !decide (l.getD k 0 < 0) && decide (l.getD k 0 = l.getD (k - 1) 0 + 1))
def runF (M : List (List Int)) : Nat → Nat → Nat
  | 0, e => e
  | d + 1, e => if contB M e = true then runF M d (e + 1) else e
theorem all_take_succ {α : Type} (p : α → Bool) (l : List α) (i : Nat) (x : α) (h : l[i]? = some x) : (l.take (i + 1)).all p = ((l.take i).all p && p x) := by
  rw [take_snoc l i x h, List.all_append]; simp
theorem all_not {α : Type} (p : α → Bool) (l : List α) (i : Nat) (x : α) (h : l[i]? = some x) (hx : p x = false) : l.all p = false := by
  rw [Bool.eq_false_iff]
  intro hc
  rw [List.all_eq_true] at hc
  rw [hc x (List.mem_of_getElem? h)] at hx
  cases hx

set_option maxHeartbeats 4000000 in
theorem stable40_c (W : World) (bm : Nat) (A : Option Addr) (c : Nat) (M : List (List Int)) (k : Nat) (h1 : W.cell? ⟨bm, 0, none⟩ = some (.slice A M.length c)) (hM : Kd.C (Kd.slice 3 (Kd.int .i64)) W A M.length M) (hk : ∀ i < M.length, k < (M.getD i []).length) (hm : M.length ≤ 1000000) :
    Calls Try.prog 40 #[.int .i64 (k : Int), .pointer (some ⟨bm, 0, none⟩)] W fun e w' => e = .returned (.bool (stabB M k)) ∧ Drawn0 W w' := by
  have HM := Aside0.mk hM
  have HK := Aside0.mk hk
  clear hM hk
  go_enter Try.func40, Try.ntmps40
  go_wp2
  go_loopg [8] M.length (fun kq v8 wr => ∃ i : Nat, v8 = .int .i64 (i : Int) ∧ Aside0 (i ≤ M.length ∧ kq = M.length - i) ∧ Aside0 ((M.take i).all (fun l => !decide (l.getD k 0 < 0)) = true) ∧ Aside0 (wr = W))
  case atStart => exact ⟨0, rfl, ⟨Nat.zero_le _, rfl⟩, ⟨rfl⟩, ⟨rfl⟩⟩
  case round =>
    obtain ⟨i, rfl, HI, HA, HW⟩ := hrel
    obtain rfl := HW.out
    by_cases hlt : (i : Int) < (M.length : Int)
    · have hi : i < M.length := by omega
      have hrow := getD_at M [] i hi
      have HR := Aside0.mk hrow
      obtain ⟨ad, A1, c1, rfl, hx, hl1, hC1⟩ := C_row HM.out i _ hrow
      have hk1 := HK.out i hi
      obtain ⟨ad1, rfl, hy⟩ := C_num hC1 k _ (getD_at _ 0 k hk1)
      clear hrow hC1
      generalize M.getD i [] = l at hx hl1 hk1 hy HR
      have HX : Aside0 (∃ x, x = l.getD k 0) := ⟨⟨_, rfl⟩⟩
      obtain ⟨x, hxe⟩ := HX.out
      rw [← hxe] at hy
      have HXE := Aside0.mk hxe
      clear hxe HX
      generalize hll : l.length = ll at hx hl1 hk1
      have b2 : (k : Int) < (ll : Int) := by omega
      clear hll
      have hw : wrap64 ((i : Int) + 1) = ((i + 1 : Nat) : Int) := by unfold wrap64; omega
      have HWR := hw
      by_cases hneg : x < 0
      · have HS : Aside0 (stabB M k = false) := ⟨by
          refine all_not _ M i l HR.out ?_
          simp only [← HXE.out, decide_eq_true hneg, Bool.not_true]⟩
        go_wp2
        go_ret
        exact ⟨by rw [HS.out]; rfl, Drawn0.refl _⟩
      · have HS : Aside0 ((M.take (i + 1)).all (fun l => !decide (l.getD k 0 < 0)) = true) := ⟨by
          rw [all_take_succ _ M i l HR.out, HA.out]
          simp only [← HXE.out, decide_eq_false hneg, Bool.not_false, Bool.and_true]⟩
        go_wp2
        go_roundg (M.length - (i + 1))
        case measure => have := HI.out; omega
        case rel => exact ⟨i + 1, by simp, ⟨by omega, rfl⟩, HS, ⟨rfl⟩⟩
    · have hi : i = M.length := by have := HI.out; omega
      have HS : Aside0 (stabB M k = true) := ⟨by
        have := HA.out
        rw [hi, List.take_length] at this
        exact this⟩
      clear hi
      go_wp2
      go_ret
      exact ⟨by rw [HS.out]; rfl, Drawn0.refl _⟩

theorem runF_stop (M : List (List Int)) (d e : Nat) (h : contB M e = false) : runF M d e = e := by
  cases d with
  | zero => rfl
  | succ d => rw [runF, if_neg (by rw [h]; decide)]
set_option maxHeartbeats 4000000 in
theorem run41_c (W : World) (A : Option Addr) (c : Nat) (M : List (List Int)) (m k : Nat) (hM : Kd.C (Kd.slice 3 (Kd.int .i64)) W A M.length M) (hrow : ∀ i < M.length, (M.getD i []).length = m) (hv : ∀ i j, -1 ≤ (M.getD i []).getD j 0 ∧ (M.getD i []).getD j 0 ≤ 1000000) (hk : k < m) (hm6 : m ≤ 1000000) (hm : M.length ≤ 1000000) :
    Calls Try.prog 41 #[.int .i64 (m : Int), .slice A M.length c, .int .i64 (k : Int)] W fun e w' => e = .returned (.int .i64 (runF M (m - (k + 1)) (k + 1) : Nat)) ∧ Drawn0 W w' := by
  have HM := Aside0.mk hM
  have HR := Aside0.mk hrow
  have HV := Aside0.mk hv
  obtain ⟨R, hR⟩ : ∃ R, runF M (m - (k + 1)) (k + 1) = R := ⟨_, rfl⟩
  rw [hR]
  have HRR := Aside0.mk hR
  have w0 : IntKind.i64.wrap ((k : Int) + 1) = ((k + 1 : Nat) : Int) := by rw [i64_w]; unfold wrap64; omega
  have w0' : wrap64 ((k : Int) + 1) = ((k + 1 : Nat) : Int) := by unfold wrap64; omega
  clear hM hrow hv hR
  go_enter Try.func41, Try.ntmps41
  go_wp2
  go_step3
  go_wp2
  go_step3
  go_wp2
  go_loopg [7] (m - (k + 1)) (fun kq v7 wr => ∃ j : Nat, v7 = .int .i64 (j : Int) ∧ Aside0 (k + 1 ≤ j ∧ j ≤ m ∧ kq = m - j) ∧ Aside0 (runF M (m - j) j = R) ∧ Aside0 (Drawn0 W wr))
  case atStart => exact ⟨k + 1, by simp, ⟨Nat.le_refl _, hk, by omega⟩, HRR, ⟨Drawn0.refl _⟩⟩
  case round =>
    clear w0 w0'
    obtain ⟨j, rfl, HJ, HRJ, HW⟩ := hrel
    have hj1 := HJ.out.1
    by_cases hlt : (j : Int) < (m : Int)
    · go_wp2
      go_loopg [19] M.length (fun kq v19 wr => ∃ i : Nat, v19 = .int .i64 (i : Int) ∧ Aside0 (i ≤ M.length ∧ kq = M.length - i) ∧ Aside0 ((M.take i).all (fun l => !decide (l.getD j 0 < 0) && decide (l.getD j 0 = l.getD (j - 1) 0 + 1)) = true) ∧ Aside0 (Drawn0 W wr))
      case atStart => exact ⟨0, rfl, ⟨Nat.zero_le _, rfl⟩, ⟨rfl⟩, HW⟩
      case round =>
        obtain ⟨i, rfl, HI, HA, HW2⟩ := hrel
        obtain ⟨n, rfl⟩ := HW2.out
        by_cases hlti : (i : Int) < (M.length : Int)
        · have hi : i < M.length := by omega
          have hrowi := getD_at M [] i hi
          have HRI := Aside0.mk hrowi
          obtain ⟨ad, A1, c1, rfl, hx, hl1, hC1⟩ := C_row HM.out i _ hrowi
          have hl := HR.out i hi
          have hx0 := HV.out i j
          have hy0 := HV.out i (j - 1)
          obtain ⟨ad1, rfl, hy⟩ := C_num hC1 j _ (getD_at _ 0 j (by omega))
          obtain ⟨ad2, e2, hy2⟩ := C_num hC1 (j - 1) _ (getD_at _ 0 (j - 1) (by omega))
          obtain rfl : ad1 = ad2 := by injection e2
          rw [hl] at hx
          clear hrowi hC1 hl e2
          generalize M.getD i [] = l at hx hl1 hy hy2 HRI hx0 hy0
          obtain ⟨x, hxe⟩ : ∃ x, x = l.getD j 0 := ⟨_, rfl⟩
          obtain ⟨y, hye⟩ : ∃ y, y = l.getD (j - 1) 0 := ⟨_, rfl⟩
          rw [← hxe] at hy hx0
          rw [← hye] at hy2 hy0
          have HXE := Aside0.mk hxe
          have HYE := Aside0.mk hye
          clear hxe hye
          have w1 : IntKind.i64.wrap ((j : Int) - 1) = ((j - 1 : Nat) : Int) := by rw [i64_w]; unfold wrap64; omega
          obtain ⟨z, hz⟩ : ∃ z, z = y + 1 := ⟨_, rfl⟩
          have w2 : IntKind.i64.wrap (y + 1) = z := by rw [i64_w, hz]; unfold wrap64; omega
          have b3 : ((j - 1 : Nat) : Int) < (m : Int) := by omega
          obtain ⟨j1, hj1e⟩ : ∃ j1, j1 = j - 1 := ⟨_, rfl⟩
          rw [← hj1e] at hy2 w1 b3
          clear hj1e
          have stop : (x < 0 ∨ x ≠ z) → R = j := fun hc => by
            rw [hz] at hc
            rw [← HRJ.out]
            refine runF_stop M _ _ (all_not _ M i l HRI.out ?_)
            rw [Bool.and_eq_false_iff]
            rcases hc with hc | hc
            · exact .inl (by rw [← HXE.out, decide_eq_true hc]; rfl)
            · exact .inr (decide_eq_false (by rw [← HXE.out, ← HYE.out]; exact hc))
          have SP := Aside0.mk stop
          have HZ := Aside0.mk hz
          clear stop hx0 hy0 hz
          by_cases hneg : x < 0
          · go_wp2
            go_quiet (fail)
            go_wp2
            try rw [Exit.noGoto_ret]
            go_ret
            exact ⟨by rw [SP.out (.inl hneg)]; rfl, by first | exact ⟨_, rfl⟩ | exact ⟨_, World.drewN_drewN _ _ _⟩⟩
          · by_cases hxy : x = z
            · have HS : Aside0 ((M.take (i + 1)).all (fun l => !decide (l.getD j 0 < 0) && decide (l.getD j 0 = l.getD (j - 1) 0 + 1)) = true) := ⟨by
                rw [all_take_succ _ M i l HRI.out, HA.out]
                simp only [← HXE.out, ← HYE.out, decide_eq_false hneg, Bool.not_false, Bool.true_and]
                exact decide_eq_true (hxy.trans HZ.out)⟩
              subst hxy
              go_wp2
              go_quiet (fail)
              go_wp2
              go_roundg (M.length - (i + 1))
              case measure => have := HI.out; omega
              case rel => exact ⟨i + 1, by simp, ⟨by omega, rfl⟩, HS, ⟨by first | exact ⟨_, rfl⟩ | exact ⟨_, World.drewN_drewN _ _ _⟩⟩⟩
            · have hne : (x != z) = true := bne_iff_ne.2 hxy
              have hne2 : decide (x = z) = false := decide_eq_false hxy
              go_wp2
              go_quiet (fail)
              go_wp2
              try rw [Exit.noGoto_ret]
              go_ret
              exact ⟨by rw [SP.out (.inr hxy)]; rfl, by first | exact ⟨_, rfl⟩ | exact ⟨_, World.drewN_drewN _ _ _⟩⟩
        · have hi : i = M.length := by have := HI.out; omega
          have HS : Aside0 (contB M j = true) := ⟨by
            have := HA.out
            rw [hi, List.take_length] at this
            exact this⟩
          clear hi
          have HN : Aside0 (runF M (m - (j + 1)) (j + 1) = R) := ⟨by
            have := HRJ.out
            rw [show m - j = m - (j + 1) + 1 from by omega, runF, if_pos HS.out] at this
            exact this⟩
          go_wp2
          go_roundg (m - (j + 1))
          case measure => have := HJ.out; omega
          case rel => exact ⟨j + 1, by simp, ⟨by omega, by omega, rfl⟩, HN, ⟨⟨_, rfl⟩⟩⟩
    · have hj : R = j := by
        have := HJ.out
        have h2 := HRJ.out
        rw [show m - j = 0 from by omega] at h2
        exact h2.symm
      have HJR := Aside0.mk hj
      clear hj
      go_wp2
      try rw [Exit.noGoto_ret]
      go_ret
      exact ⟨by rw [HJR.out]; rfl, HW.out⟩
end Go.Proofs.Ytnebadlakmlkkaa.M
namespace Go.Proofs.Ytnebadlakmlkkaa.M
open Go.RowKit Go.Proofs Go.Proofs.Ytnebadlakmlkkaa.Hand Go.Proofs.YtnebadlakmlkkaaW.PrintWords Go.Proofs.YtnebadlakmlkkaaW.PrintLast Go.Proofs.YtnebadlakmlkkaaW.PrintMore
attribute [local go_sem] Oper.semAt_some
set_option linter.unusedVariables false
set_option linter.unusedSimpArgs false

section
variable {P : Program} {ops : Array Oper} {Q : Exit → Act → World → Prop}
/-- A call of a function value that lies in a slot, in a plain region. -/
theorem goesTL_ {rest : List Oper} {oi : Oper} {a : Act} {w : World} (N : Option Tmp) (hd : oi.dst = N) (hg : oi.guard = none) {f : FuncId} {fn : Func} {s : Operand} {as_ : Array Operand} {ts : Array TypeId} (caps all : Array Value) (hf : P.funcs[f]? = some fn) (hname : (fn.name == "runtime.NumGoroutine") = false) (hb : fn.body.isSome = true) (args : Array Value) (hall : args ++ caps = all)
    (hop : oi.op = .call { callee := .value s, args := as_, argTypes := ts }) (hs : a.eval s = .func (.func f) #[] caps) (hargs : as_.map a.eval = args)
    (h : Calls P f all w fun e w' => ∃ v, e = .returned v ∧ wpList P ops Q rest (a.put N v) w') : wpList P ops Q (oi :: rest) a w := by
  subst hall
  refine wpList_plain hg fun K hK => ?_
  have he := enters_ hf hname hb (args ++ caps) w
  have hrun : (execOp a.eval oi).run P w = .ok (.enter f (args ++ caps)) w := by
    unfold execOp
    simp [hop, hs, resolve, Deferred.ofValue, invoke, hargs, he]
  unfold Oper.wp
  rw [hrun, Oper.upon_enter]
  refine h.mono fun e w'' hh => ?_
  obtain ⟨v, rfl, hk⟩ := hh
  subst hd
  exact hK _ _ hk
end

def spans (a b : List Int) : List S36 := List.zipWith (fun f t => ⟨f, t⟩) a b
def someP (b b' : Int) (a a' : List Int) (i : Nat) : Bool := decide (b' > b) || ((List.zip a a').take i).any (fun p => decide (p.2 > p.1))
def someB (b b' : Int) (a a' : List Int) : Bool := decide (b' > b) || (List.zip a a').any (fun p => decide (p.2 > p.1))
theorem zip_at' (a a' : List Int) (i : Nat) (h : i < a.length) (h' : i < a'.length) : (List.zip a a')[i]? = some (a.getD i 0, a'.getD i 0) := by
  rw [List.getElem?_eq_getElem (by rw [List.length_zip]; omega), List.getElem_zip]
  simp [List.getD_eq_getElem?_getD, h, h']
theorem someP_succ (b b' : Int) (a a' : List Int) (i : Nat) (h : i < a.length) (h' : i < a'.length) : someP b b' a a' (i + 1) = (someP b b' a a' i || decide (a'.getD i 0 > a.getD i 0)) := by
  unfold someP
  rw [take_snoc _ i _ (zip_at' a a' i h h'), List.any_append]
  simp [Bool.or_assoc]
theorem spans_at (a a' : List Int) (i : Nat) (h : i < a.length) (h' : i < a'.length) : (spans a a')[i]? = some ⟨a.getD i 0, a'.getD i 0⟩ := by
  unfold spans
  simp [List.getElem?_zipWith, List.getD_eq_getElem?_getD, h, h']
def mixL (a a' : List Int) (i : Nat) : List Int := a'.take i ++ a.drop i
theorem mixL_at (a a' : List Int) (i : Nat) (h : i < a.length) (h' : i < a'.length) : (mixL a a' i)[i]? = some (a.getD i 0) := by
  unfold mixL
  rw [List.getElem?_append_right (by simp; omega)]
  simp [List.getD_eq_getElem?_getD, h, Nat.min_eq_left (Nat.le_of_lt h')]
theorem mixL_set (a a' : List Int) (i : Nat) (h : i < a.length) (h' : i < a'.length) : (mixL a a' i).set i (a'.getD i 0) = mixL a a' (i + 1) := by
  unfold mixL
  have e : (a'.take i).length = i := by simp; omega
  rw [List.set_append, if_neg (by omega), e, Nat.sub_self, List.drop_eq_getElem_cons h, List.set_cons_zero, take_snoc a' i (a'.getD i 0) (getD_at a' 0 i h'), List.append_assoc]
  rfl

/-- A cutter: where it stands, and what it has cut. -/
structure CutW (n₀ pc ps : Nat) (b : Int) (a : List Int) (ov : Value) (out : List S39) (W : World) : Prop where
  hc : W.heap[pc]? = some (.cells #[.int .i64 b, .slice (some ⟨ps, 0, none⟩) a.length a.length, ov] 76 (0, 0))
  hs : W.heap[ps]? = some (.cells (a.map (Value.int .i64)).toArray 3 (0, 0))
  ho : Kd.S k39 39 W n₀ (fun _ => True) ov out
/-- The same while a chunk is made: its box is block N, its spans lie behind. -/
structure StT (w0 : World) (N n₀ pc ps n : Nat) (b : Int) (ov : Value) (out : List S39) (st : Bool) (b' : Int) (cs : List Int) (sv : Value) (ks : List S36) (W : World) : Prop where
  hc : W.heap[pc]? = some (.cells #[.int .i64 b, .slice (some ⟨ps, 0, none⟩) n n, ov] 76 (0, 0))
  hs : W.heap[ps]? = some (.cells (cs.map (Value.int .i64)).toArray 3 (0, 0))
  ho : Kd.S k39 39 W n₀ (fun k => k < N ∧ k ≠ pc ∧ k ≠ ps) ov out
  hk : W.heap[N]? = some (.cells #[.bool st, .int .i64 b, .int .i64 b', sv] 39 (0, 0))
  hv : Kd.R k36 36 W (N + 1) (fun _ => True) sv ks
  hb : Below n₀ w0 W
  hq : ∀ k, k < N → k ≠ pc → k ≠ ps → W.heap[k]? = w0.heap[k]?
/-- What the places are. -/
structure OkT (N n₀ pc ps : Nat) : Prop where
  n0 : n₀ ≤ N
  pc0 : n₀ ≤ pc
  ps0 : n₀ ≤ ps
  pcN : pc < N
  psN : ps < N
  cs : pc ≠ ps
theorem info36' : (Try.prog.info? 36).map (fun i => (i.zero, i.size, i.bytes)) = some (some (.agg #[(.int .i64 0), (.int .i64 0)]), 2, 16) := by kernel_rfl
theorem info39' : (Try.prog.info? 39).map (fun i => (i.zero, i.size, i.bytes)) = some (some (.agg #[(.bool false), (.int .i64 0), (.int .i64 0), (.slice none 0 0)]), 4, 48) := by kernel_rfl
section
variable {w0 W w1 : World} {N n₀ pc ps n : Nat} {b b' : Int} {ov sv v1 : Value} {out : List S39} {st : Bool} {cs : List Int} {ks ks1 : List S36}
theorem StT.sz (h : StT w0 N n₀ pc ps n b ov out st b' cs sv ks W) : N + 1 ≤ W.heap.size := blk_lt h.hk
theorem StT.low (h : StT w0 N n₀ pc ps n b ov out st b' cs sv ks W) (ok : OkT N n₀ pc ps) (hl : Below (N + 1) W w1) (hr : Kd.R k36 36 w1 (N + 1) (fun _ => True) v1 ks1) :
    w1.heap[N]? = some (.cells #[.bool st, .int .i64 b, .int .i64 b', sv] 39 (0, 0)) ∧ (∀ u, v1 = u → StT w0 N n₀ pc ps n b ov out st b' cs u ks1 (w1.setCell ⟨N, 3, none⟩ u)) := by
  have hz := h.sz
  have ok1 := ok.pcN
  have ok2 := ok.psN
  have f : ∀ k, k < N + 1 → w1.heap[k]? = W.heap[k]? := fun k hk => hl.block k hk
  have g : ∀ k u, k ≠ N → (w1.setCell ⟨N, 3, none⟩ u).heap[k]? = w1.heap[k]? := fun k u hk => Below.heap_setCell w1 ⟨N, 3, none⟩ u k hk
  refine ⟨(f N (by omega)).trans h.hk, fun u hu => ?_⟩
  subst hu
  refine ⟨(g pc _ (by omega)).trans ((f pc (by omega)).trans h.hc), (g ps _ (by omega)).trans ((f ps (by omega)).trans h.hs), ?_, ?_, ?_, ?_, fun k hk1 hk2 hk3 => (g k _ (by omega)).trans ((f k (by omega)).trans (h.hq k hk1 hk2 hk3))⟩
  · exact Kd.S_far (Kd.S_step h.ho (fun k hk _ => f k (by omega))) (p := ⟨N, 3, none⟩) (fun k hk => by show k ≠ N; omega) _
  · exact blk_put ((f N (by omega)).trans h.hk) 3 _ rfl
  · exact Kd.R_mono (Kd.R_far (Kd.R_bound hr) (p := ⟨N, 3, none⟩) (fun k hk => by show k ≠ N; have := hk.2.1; omega) _) (fun _ _ => trivial)
  · exact (h.hb.trans (hl.mono (by have := ok.n0; omega))).setCell (p := ⟨N, 3, none⟩) ok.n0 _
theorem StT.below (h : StT w0 N n₀ pc ps n b ov out st b' cs sv ks W) (ok : OkT N n₀ pc ps) (hl : Below W.heap.size W w1) : StT w0 N n₀ pc ps n b ov out st b' cs sv ks w1 := by
  have hz := h.sz
  have ok1 := ok.pcN
  have ok2 := ok.psN
  have f : ∀ k, k < N + 1 → w1.heap[k]? = W.heap[k]? := fun k hk => hl.block k (by omega)
  exact ⟨(f pc (by omega)).trans h.hc, (f ps (by omega)).trans h.hs, Kd.S_below h.ho hl, (f N (by omega)).trans h.hk, Kd.R_below h.hv hl, h.hb.trans (hl.mono (by have := ok.n0; omega)), fun k hk1 hk2 hk3 => (f k (by omega)).trans (h.hq k hk1 hk2 hk3)⟩
theorem StT.put (h : StT w0 N n₀ pc ps n b ov out st b' cs sv ks W) (ok : OkT N n₀ pc ps) (i : Nat) (x : Int) : StT w0 N n₀ pc ps n b ov out st b' (cs.set i x) sv ks (W.setCell ⟨ps, i, none⟩ (.int .i64 x)) := by
  have ok2 := ok.psN
  have g : ∀ k, k ≠ ps → (W.setCell ⟨ps, i, none⟩ (.int .i64 x)).heap[k]? = W.heap[k]? := fun k hk => Below.heap_setCell W ⟨ps, i, none⟩ _ k hk
  refine ⟨(g pc ok.cs).trans h.hc, ?_, Kd.S_far h.ho (p := ⟨ps, i, none⟩) (fun k hk => hk.2.2) _, (g N (by omega)).trans h.hk, ?_, h.hb.setCell (p := ⟨ps, i, none⟩) ok.ps0 _, fun k hk1 hk2 hk3 => (g k hk3).trans (h.hq k hk1 hk2 hk3)⟩
  · exact blk_put h.hs i _ (by simp [List.map_set])
  · exact Kd.R_mono (Kd.R_far (Kd.R_bound h.hv) (p := ⟨ps, i, none⟩) (fun k hk => by show k ≠ ps; have := hk.2.1; omega) _) (fun _ _ => trivial)
theorem CutW.fin {n₀ pc ps N n : Nat} {b b' : Int} {a' : List Int} {W9 : World} (ok : OkT N n₀ pc ps) (hn : n = a'.length) (hc : W9.heap[pc]? = some (.cells #[.int .i64 b, .slice (some ⟨ps, 0, none⟩) n n, v1] 76 (0, 0))) (hs : W9.heap[ps]? = some (.cells (a'.map (Value.int .i64)).toArray 3 (0, 0)))
    (ho : Kd.S k39 39 W9 n₀ (fun k => k ≠ pc ∧ k ≠ ps) v1 out) (hb : Below n₀ w0 W9) (hq : ∀ k, k < N → k ≠ pc → k ≠ ps → some k ≠ ov.ownBlock → W9.heap[k]? = w0.heap[k]?) :
    CutW n₀ pc ps b' a' v1 out (W9.setCell ⟨pc, 0, none⟩ (.int .i64 b')) ∧ Below n₀ w0 (W9.setCell ⟨pc, 0, none⟩ (.int .i64 b')) ∧ (∀ k, k < N → k ≠ pc → k ≠ ps → some k ≠ ov.ownBlock → (W9.setCell ⟨pc, 0, none⟩ (.int .i64 b')).heap[k]? = w0.heap[k]?) := by
  subst hn
  have g : ∀ k, k ≠ pc → (W9.setCell ⟨pc, 0, none⟩ (.int .i64 b')).heap[k]? = W9.heap[k]? := fun k hk => Below.heap_setCell W9 ⟨pc, 0, none⟩ _ k hk
  exact ⟨⟨blk_put hc 0 _ rfl, (g ps ok.cs.symm).trans hs, Kd.S_mono (Kd.S_far ho (p := ⟨pc, 0, none⟩) (fun k hk => hk.1) _) (fun _ _ => trivial)⟩, hb.setCell (p := ⟨pc, 0, none⟩) ok.pc0 _, fun k hk1 hk2 hk3 hk4 => (g k hk2).trans (hq k hk1 hk2 hk3 hk4)⟩
/-- Behind 'c.out = append(c.out, k)'. -/
theorem StT.app {ov' : Value} {out' : List S39} (h : StT w0 N n₀ pc ps n b ov out st b' cs sv ks W) (ok : OkT N n₀ pc ps)
    (hr : Kd.S k39 39 w1 n₀ (fun k => k ≠ pc ∧ k ≠ ps) ov' out') (hb : Below n₀ w0 w1) (hg : W.grownBy w1 ov.ownBlock) :
    w1.heap[pc]? = some (.cells #[.int .i64 b, .slice (some ⟨ps, 0, none⟩) n n, ov] 76 (0, 0)) ∧ (∀ u, ov' = u → (w1.setCell ⟨pc, 2, none⟩ u).heap[pc]? = some (.cells #[.int .i64 b, .slice (some ⟨ps, 0, none⟩) n n, u] 76 (0, 0)) ∧
      (w1.setCell ⟨pc, 2, none⟩ u).heap[ps]? = some (.cells (cs.map (Value.int .i64)).toArray 3 (0, 0)) ∧ Kd.S k39 39 (w1.setCell ⟨pc, 2, none⟩ u) n₀ (fun k => k ≠ pc ∧ k ≠ ps) u out' ∧ Below n₀ w0 (w1.setCell ⟨pc, 2, none⟩ u) ∧ (∀ k, k < N → k ≠ pc → k ≠ ps → some k ≠ ov.ownBlock → (w1.setCell ⟨pc, 2, none⟩ u).heap[k]? = w0.heap[k]?)) := by
  have hc1 := blk_grown h.hc hg (Kd.S_ne h.ho h.hc (by decide))
  refine ⟨hc1, fun u hu => ?_⟩
  subst hu
  have g : ∀ k u, k ≠ pc → (w1.setCell ⟨pc, 2, none⟩ u).heap[k]? = w1.heap[k]? := fun k u hk => Below.heap_setCell w1 ⟨pc, 2, none⟩ u k hk
  exact ⟨blk_put hc1 2 _ rfl, (g ps _ ok.cs.symm).trans (blk_grown h.hs hg (Kd.S_ne h.ho h.hs (by decide))), Kd.S_far hr (p := ⟨pc, 2, none⟩) (fun k hk => hk.1) _, hb.setCell (p := ⟨pc, 2, none⟩) ok.pc0 _, fun k hk1 hk2 hk3 hk4 => (g k _ hk2).trans ((hg.block k (by have := h.sz; omega) hk4).trans (h.hq k hk1 hk2 hk3))⟩
theorem StT.start {w6 : World} {n₀ pc ps gc : Nat} {b b' : Int} {ov : Value} {out : List S39} {st : Bool} {a a' : List Int} (ok : OkT w0.heap.size n₀ pc ps) (hC : CutW n₀ pc ps b a ov out w0) (hg : gc = w0.heap.size)
    (hx : w6.heap[gc]? = some (.cells #[.bool false, .int .i64 0, .int .i64 0, .slice none 0 0] 39 (0, 0))) (hb : Below w0.heap.size w0 w6) :
    StT w0 gc n₀ pc ps a.length b ov out st b' (mixL a a' 0) (.slice none 0 0) ((spans a a').take 0) ((((w6.setCell ⟨gc, 0, none⟩ (.bool st)).setCell ⟨gc, 1, none⟩ (.int .i64 b)).setCell ⟨gc, 2, none⟩ (.int .i64 b')).setCell ⟨gc, 3, none⟩ (.slice none 0 0)) := by
  subst hg
  have hx4 := blk_put (cs' := #[.bool st, .int .i64 b, .int .i64 b', .slice none 0 0]) (blk_put (cs' := #[.bool st, .int .i64 b, .int .i64 b', .slice none 0 0]) (blk_put (cs' := #[.bool st, .int .i64 b, .int .i64 0, .slice none 0 0]) (blk_put (cs' := #[.bool st, .int .i64 0, .int .i64 0, .slice none 0 0]) hx 0 (.bool st) rfl) 1 (.int .i64 b) rfl) 2 (.int .i64 b') rfl) 3 (.slice none 0 0) rfl
  have hB := below_set (j := 3) (v := .slice none 0 0) (below_set (j := 2) (v := .int .i64 b') (below_set (j := 1) (v := .int .i64 b) (below_set (j := 0) (v := .bool st) hb (Nat.le_refl _)) (Nat.le_refl _)) (Nat.le_refl _)) (Nat.le_refl _)
  generalize (((w6.setCell ⟨w0.heap.size, 0, none⟩ (.bool st)).setCell ⟨w0.heap.size, 1, none⟩ (.int .i64 b)).setCell ⟨w0.heap.size, 2, none⟩ (.int .i64 b')).setCell ⟨w0.heap.size, 3, none⟩ (.slice none 0 0) = w7 at hx4 hB
  have f : ∀ k, k < w0.heap.size → w7.heap[k]? = w0.heap[k]? := fun k hk => hB.block k hk
  refine ⟨(f pc ok.pcN).trans hC.hc, ?_, ?_, hx4, Kd.R_nil _ _ _ _ _, hB.mono ok.n0, fun k hk1 _ _ => f k hk1⟩
  · rw [show mixL a a' 0 = a from by simp [mixL]]
    exact (f ps ok.psN).trans hC.hs
  · refine Kd.S_mono (Kd.S_below (Kd.S_bound (Kd.S_types (Kd.S_types hC.ho hC.hc (by decide)) hC.hs (by decide))) hB) (fun k hk => ⟨hk.2.2.1, hk.1.1.2, hk.1.2⟩)
end

set_option maxHeartbeats 8000000 in
set_option maxRecDepth 100000 in
theorem to42_c (fa : FuncId) (fn : Func) (hf : Try.prog.funcs[fa]? = some fn) (hname : (fn.name == "runtime.NumGoroutine") = false) (hbo : fn.body.isSome = true) (caps : Array Value) (w : World) (n₀ pc ps : Nat) (ok : OkT w.heap.size n₀ pc ps)
    (b b' : Nat) (a a' : List Int) (ov : Value) (out : List S39) (st : Bool) (hlen : a.length = a'.length) (hl6 : a.length ≤ 1000) (hout : out.length ≤ 100000) (hC : CutW n₀ pc ps b a ov out w)
    (hat : ∀ W', Below n₀ w W' → (∀ k, k < w.heap.size → k ≠ pc → k ≠ ps → W'.heap[k]? = w.heap[k]?) → ∀ i : Nat, i < a.length → Calls Try.prog fa (#[.int .i64 (i : Int)] ++ caps) W' fun e w' => e = .returned (.int .i64 (a'.getD i 0)) ∧ Drawn0 W' w') :
    Calls Try.prog 42 #[.pointer (some ⟨pc, 0, none⟩), .bool st, .int .i64 (b' : Int), .func (.func fa) #[] caps] w fun e w' => (∃ u, e = .returned u) ∧ ∃ ov', CutW n₀ pc ps b' a' ov' (if someB b b' a a' = true then out ++ [⟨st, ⟨b, b'⟩, spans a a'⟩] else out) w' ∧ Below n₀ w w' ∧ (∀ k, k < w.heap.size → k ≠ pc → k ≠ ps → some k ≠ ov.ownBlock → w'.heap[k]? = w.heap[k]?) := by
  obtain ⟨Ao, co, rfl⟩ := Kd.S_slice hC.ho
  have HF := Aside0.mk hf
  have HOK := Aside0.mk ok
  have HLN := Aside0.mk (And.intro hlen (And.intro hl6 hout))
  have HCALL : Aside0 (∀ (N : Nat), N = w.heap.size → ∀ (cs : List Int) (sv : Value) (ks : List S36) W', StT w N n₀ pc ps a.length b (.slice Ao out.length co) out st b' cs sv ks W' → ∀ i : Nat, i < a.length → Calls Try.prog fa (#[.int .i64 (i : Int)] ++ caps) W' fun e w' => e = .returned (.int .i64 (a'.getD i 0)) ∧ Drawn0 W' w') := ⟨fun N hN cs sv ks W' h i hi => hat W' h.hb (hN ▸ h.hq) i hi⟩
  have HC := Aside0.mk hC
  obtain ⟨res, hres⟩ : ∃ res, res = (if someB b b' a a' = true then out ++ [(⟨st, ⟨b, b'⟩, spans a a'⟩ : S39)] else out) := ⟨_, rfl⟩
  rw [← hres]
  have HRES := Aside0.mk hres
  clear hres
  have hu39 := Try.underlying39
  have hu36 := Try.underlying36
  have hu76 := Try.underlying76
  clear hf ok hlen hl6 hout hat hC
  have hpb : w.cell? ⟨pc, 0, none⟩ = some (.int .i64 (b : Int)) := (blk_cell HC.out.hc 0).trans rfl
  go_enter Try.func42, Try.ntmps42
  go_wp2_with (first
    | ((with_reducible refine gate_dst (N := 8) rfl ?_); refine box_event ?hg (N := 8) ?hd (cs := #[.bool false, .int .i64 0, .int .i64 0, .slice none 0 0]) (t := 39) ?hr ?_; (case hd => rfl); (case hg => rfl); (case hr => first | (go_simp; done) | (go_simp; rfl)); intro gc hg0 w6 hbox0 hb0; have HGC := Aside0.mk hg0; have HBX := Aside0.mk hbox0; have HB6 := Aside0.mk hb0; clear hg0 hb0 hbox0; have hcz_0 : w6.cell? ⟨gc, 0, none⟩ = some (.bool false) := (blk_cell HBX.out 0).trans rfl; have hcz_1 : w6.cell? ⟨gc, 1, none⟩ = some (.int .i64 0) := (blk_cell HBX.out 1).trans rfl; have hcz_2 : w6.cell? ⟨gc, 2, none⟩ = some (.int .i64 0) := (blk_cell HBX.out 2).trans rfl; have hcz_3 : w6.cell? ⟨gc, 3, none⟩ = some (.slice none 0 0) := (blk_cell HBX.out 3).trans rfl; have hfz_0 := blk_frozen HBX.out 0; have hfz_1 := blk_frozen HBX.out 1; have hfz_2 := blk_frozen HBX.out 2; have hfz_3 := blk_frozen HBX.out 3)
    | ((with_reducible refine gate_store (t := 39) (p := 8) rfl ?_); refine store_event (t := 39) (p := 8) (v := ?vo_) (w1 := ((((w6.setCell ⟨gc, 0, none⟩ (.bool st)).setCell ⟨gc, 1, none⟩ (.int .i64 (b : Int))).setCell ⟨gc, 2, none⟩ (.int .i64 (b' : Int))).setCell ⟨gc, 3, none⟩ (.slice none 0 0))) ?hg ?ho ?hn ?hr ?_; (case ho => rfl); (case hg => rfl); (case hn => rfl); (case hr => first | (go_simp; done) | (go_simp; rfl)); intro w7 hw7;
       have HOKg : Aside0 (OkT gc n₀ pc ps) := ⟨by rw [HGC.out]; exact HOK.out⟩;
       have HT : Aside0 (StT w gc n₀ pc ps a.length b (.slice Ao out.length co) out st b' (mixL a a' 0) (.slice none 0 0) ((spans a a').take 0) w7) := ⟨by rw [hw7]; exact StT.start HOK.out HC.out HGC.out HBX.out HB6.out⟩;
       clear hw7 hcz_0 hcz_1 hcz_2 hcz_3 hfz_0 hfz_1 hfz_2 hfz_3 HBX HB6 hpb;
       have hpb : w7.cell? ⟨pc, 0, none⟩ = some (.int .i64 (b : Int)) := (blk_cell HT.out.hc 0).trans rfl;
       have hps : w7.cell? ⟨pc, 1, none⟩ = some (.slice (some ⟨ps, 0, none⟩) a.length a.length) := (blk_cell HT.out.hc 1).trans rfl))
  go_loopg [9, 31] a.length (fun kq v9 v31 wr => ∃ (i : Nat) (sv : Value), v9 = .bool (someP b b' a a' i) ∧ v31 = .int .i64 (i : Int) ∧ Aside0 (i ≤ a.length ∧ kq = a.length - i) ∧ Aside0 (StT w gc n₀ pc ps a.length b (.slice Ao out.length co) out st b' (mixL a a' i) sv ((spans a a').take i) wr))
  case atStart => exact ⟨0, _, (by simp [someP]), rfl, ⟨Nat.zero_le _, rfl⟩, HT⟩
  case round =>
    clear hpb hps HT
    obtain ⟨i, sv, rfl, rfl, HI, HT⟩ := hrel
    obtain ⟨so, hso⟩ : ∃ so, so = someP b b' a a' i := ⟨_, rfl⟩
    rw [← hso]
    have HSO := Aside0.mk hso
    clear hso
    obtain ⟨ks, hks⟩ : ∃ ks, ks = (spans a a').take i := ⟨_, rfl⟩
    rw [← hks] at HT
    have HKS := Aside0.mk hks
    clear hks
    obtain ⟨Av, cv, rfl⟩ := Kd.R_slice HT.out.hv
    by_cases hlt : (i : Int) < (a.length : Int)
    · have hi : i < a.length := by omega
      have HI2 := Aside0.mk hi
      have hia : i < a'.length := by have := HLN.out.1; omega
      have HI3 := Aside0.mk hia
      obtain ⟨x, hx⟩ : ∃ x, x = a.getD i 0 := ⟨_, rfl⟩
      obtain ⟨y, hy⟩ : ∃ y, y = a'.getD i 0 := ⟨_, rfl⟩
      have HX := Aside0.mk hx
      have HY := Aside0.mk hy
      have HCI : Aside0 (∀ (cs : List Int) (sv : Value) (ks : List S36) W', StT w gc n₀ pc ps a.length b (.slice Ao out.length co) out st b' cs sv ks W' → Calls Try.prog fa (#[.int .i64 (i : Int)] ++ caps) W' fun e w' => e = .returned (.int .i64 y) ∧ Drawn0 W' w') := ⟨fun cs sv ks W' h => by rw [hy]; exact HCALL.out _ HGC.out cs sv ks W' h i hi⟩
      have HMX : Aside0 ((((mixL a a' i).map (Value.int .i64)).toArray)[i]? = some (.int .i64 x)) := ⟨by rw [hx]; simp [mixL_at a a' i hi hia]⟩
      have hcx : wr.cell? ⟨ps, i, none⟩ = some (.int .i64 x) := (blk_cell HT.out.hs i).trans HMX.out
      clear hx hy hi hia
      go_wp2
      have HT4 := Aside0.mk (HT.out.below HOKg.out (below_drew (Below.refl _ _)))
      have HK4 : Aside0 (wr.drew.cell? ⟨gc, 3, none⟩ = some (.slice Av ks.length cv)) := ⟨(blk_cell HT4.out.hk 3).trans rfl⟩
      obtain ⟨W4, hW4⟩ : ∃ W4, W4 = wr.drew := ⟨_, rfl⟩
      rw [← hW4] at HT4
      refine start_ (n := 11) (S := fun w' => w'.cell? ⟨gc, 3, none⟩ = some (.slice Av ks.length cv)) (ds := [8, 10]) #[false, false, false, false, false, false, false, false, false, false, false] (by kernel_rfl) rfl rfl (HK4.out) (fun hHeld => ?_)
      rw [← hW4] at hHeld ⊢
      clear hW4
      refine pure_ (i := 0) (N := some 36) (v := ?_) (a' := ?_) #[true, false, false, false, false, false, false, false, false, false, false] rfl rfl (by kernel_rfl) (fun _ _ _ h => h) (Or.inl ⟨by rfl, ?_⟩) ?_ ?_
      rotate_left
      · intro w'
        go_simp
        with_reducible rfl
      rotate_left
      · simp only [Act.put, List.setIfInBounds_toArray, List.set_cons_zero, List.set_cons_succ, i64_w, i32_w]
        rfl
      refine pure_ (i := 2) (N := some 38) (v := ?_) (a' := ?_) #[true, false, true, false, false, false, false, false, false, false, false] rfl rfl (by kernel_rfl) (fun _ _ _ h => h) (Or.inl ⟨by rfl, ?_⟩) ?_ ?_
      rotate_left
      · intro w'
        go_simp
        with_reducible rfl
      rotate_left
      · simp only [Act.put, List.setIfInBounds_toArray, List.set_cons_zero, List.set_cons_succ, i64_w, i32_w]
        rfl
      refine pure_ (i := 3) (N := some 39) (v := ?_) (a' := ?_) #[true, false, true, true, false, false, false, false, false, false, false] rfl rfl (by kernel_rfl) (fun _ _ _ h => h) (Or.inl ⟨by rfl, ?_⟩) ?_ ?_
      rotate_left
      · intro w'
        go_simp
        with_reducible rfl
      rotate_left
      · simp only [Act.put, List.setIfInBounds_toArray, List.set_cons_zero, List.set_cons_succ, i64_w, i32_w]
        rfl
      refine pure_ (i := 4) (N := some 40) (v := ?_) (a' := ?_) #[true, false, true, true, true, false, false, false, false, false, false] rfl rfl (by kernel_rfl) (fun _ _ _ h => h) (Or.inl ⟨by rfl, ?_⟩) ?_ ?_
      rotate_left
      · intro w'
        go_simp
        with_reducible rfl
      rotate_left
      · simp only [Act.put, List.setIfInBounds_toArray, List.set_cons_zero, List.set_cons_succ, i64_w, i32_w]
        rfl
      refine take_ (i := 1) (N := some 37) (v := ?_) (a' := ?_) #[true, true, true, true, true, false, false, false, false, false, false] rfl rfl (by kernel_rfl) (fun _ _ _ h => h) (Or.inl ⟨by rfl, ?_⟩) hHeld ?_ ?_
      rotate_left
      · intro w' s0
        go_simp
        with_reducible rfl
      rotate_left
      · simp only [Act.put, List.setIfInBounds_toArray, List.set_cons_zero, List.set_cons_succ, i64_w, i32_w]
        rfl
      refine one_ (i := 5) (N := some 41) #[true, true, true, true, true, true, false, false, false, false, false] rfl rfl (by kernel_rfl) (by decide) (fun K hK => ?_)
      refine goesT_ caps (#[.int .i64 (i : Int)] ++ caps) HF.out hname hbo #[.int .i64 (i : Int)] rfl (by rfl) rfl rfl (by rfl) (by simp only [List.map_toArray, List.map_cons, List.map_nil]; rfl) ?_
      with_reducible refine (HCI.out _ _ _ W4 HT4.out).mono ?_
      rintro e w5 ⟨rfl, ⟨nd, rfl⟩⟩
      refine ⟨_, rfl, ?_⟩
      have HT5 := Aside0.mk (HT4.out.below HOKg.out (pw_below_drewN (Below.refl _ _) nd))
      obtain ⟨W5, hW5⟩ : ∃ W5, W4.drewN nd = W5 := ⟨_, rfl⟩
      rw [hW5] at HT5 ⊢
      clear hW5
      refine hK.out _ _ ((blk_cell HT5.out.hk 3).trans rfl) (fun hHeld => ?_)
      clear hK K
      refine norm_ (a' := ?_) ?_ ?_
      rotate_left
      · show Act.put _ (some 41) _ = _
        simp only [Act.put, List.setIfInBounds_toArray, List.set_cons_zero, List.set_cons_succ, i64_w, i32_w]
        rfl
      refine pure_ (i := 6) (N := some 42) (v := ?_) (a' := ?_) #[true, true, true, true, true, true, true, false, false, false, false] rfl rfl (by kernel_rfl) (fun _ _ _ h => h) (Or.inl ⟨by rfl, ?_⟩) ?_ ?_
      rotate_left
      · intro w'
        go_simp
        with_reducible rfl
      rotate_left
      · simp only [Act.put, List.setIfInBounds_toArray, List.set_cons_zero, List.set_cons_succ, i64_w, i32_w]
        rfl
      refine one_ (i := 7) (N := some 43) #[true, true, true, true, true, true, true, true, false, false, false] rfl rfl (by kernel_rfl) (by decide) (fun K hK => ?_)
      refine value_ (w1 := ?_) (v := ?_) (by rfl) rfl ?_ ?_
      rotate_left 2
      · go_simp
        constructor
        · rfl
        · rfl
      refine hK.out _ _ ((blk_cell (HT5.out.below HOKg.out (below_alloc (Below.refl _ _) _)).hk 3).trans rfl) (fun hHeld => ?_)
      clear hK K
      refine norm_ (a' := ?_) ?_ ?_
      rotate_left
      · show Act.put _ (some 43) _ = _
        simp only [Act.put, List.setIfInBounds_toArray, List.set_cons_zero, List.set_cons_succ, i64_w, i32_w]
        rfl
      refine last_ (i := 8) (N := some 44) #[true, true, true, true, true, true, true, true, true, false, false] rfl rfl (by kernel_rfl) (by decide) (fun K hK => ?_)
      refine Kd.R_append_step k36 (w0 := W5) (gc + 1) (by rfl) (.tmp 37) (.tmp 43) 37 36 (.agg #[(.int .i64 0), (.int .i64 0)]) 16 rfl Try.underlying37 info36' rfl (by decide) (by omega) (.slice Av ks.length cv) ks (⟨x, y⟩ : S36) [.int .i64 x, .int .i64 y] (fun _ => True) (fun _ => False) rfl rfl (k36_mkM _ _ _ (⟨x, y⟩ : S36)) (fun _ hk => hk.elim) (fun _ _ => trivial) HT5.out.hv (Below.refl _ _) HT5.out.sz (by have h1 := HKS.out; have h2 := HLN.out; have h3 : ks.length ≤ i := (by rw [h1, List.length_take]; exact Nat.min_le_left _ _); have := HI2.out; omega) ?_
      intro v1 w8 hr8 hb8 hg8 hat8
      obtain ⟨A8, c8, e9⟩ := Kd.R_slice hr8
      rw [List.length_append, List.length_singleton] at e9
      subst e9
      obtain ⟨hk8, hT8⟩ := HT5.out.low HOKg.out hb8 hr8
      have HT8 := Aside0.mk (hT8 _ rfl)
      have hk8c : w8.cell? ⟨gc, 3, none⟩ = some (.slice Av ks.length cv) := (blk_cell hk8 3).trans rfl
      have hk8f := blk_frozen hk8 3
      clear hr8 hb8 hg8 hat8 hk8 hT8
      refine hK.out _ _ ?_
      clear hK K
      refine norm_ (a' := ?_) ?_ ?_
      rotate_left
      · show Act.put _ (some 44) _ = _
        simp only [Act.put, List.setIfInBounds_toArray, List.set_cons_zero, List.set_cons_succ, i64_w, i32_w]
        rfl
      refine pure_ (i := 9) (N := some 45) (v := ?_) (a' := ?_) #[true, true, true, true, true, true, true, true, true, true, false] rfl rfl (by kernel_rfl) (fun _ _ _ h => h) (Or.inl ⟨by rfl, ?_⟩) ?_ ?_
      rotate_left
      · intro w'
        go_simp
        with_reducible rfl
      rotate_left
      · simp only [Act.put, List.setIfInBounds_toArray, List.set_cons_zero, List.set_cons_succ, i64_w, i32_w]
        rfl
      refine last_ (i := 10) (N := none) #[true, true, true, true, true, true, true, true, true, true, true] rfl rfl (by kernel_rfl) (by decide) (fun K hK => ?_)
      refine skip_ (w1 := ?_) (by rfl) rfl ?_ ?_
      rotate_left
      · go_simp
        rfl
      refine hK.out _ _ ?_
      clear hK K
      refine done_ (by kernel_rfl) ?_

      obtain ⟨W9, hW9⟩ : ∃ W9, w8.setCell ⟨gc, 3, none⟩ (.slice A8 (ks.length + 1) c8) = W9 := ⟨_, rfl⟩
      rw [hW9] at HT8 ⊢
      clear hW9 hk8c hk8f hcx HT4 HT5 HT
      cases so with
      | true =>
        go_wp2
        have HT4 := Aside0.mk (HT8.out.below HOKg.out (below_drew (Below.refl _ _)))
        have HK4 : Aside0 (W9.drew.cell? ⟨pc, 1, none⟩ = some (.slice (some ⟨ps, 0, none⟩) a.length a.length)) := ⟨(blk_cell HT4.out.hc 1).trans rfl⟩
        obtain ⟨W4, hW4⟩ : ∃ W4, W4 = W9.drew := ⟨_, rfl⟩
        rw [← hW4] at HT4
        refine start_ (n := 10) (S := fun w' => w'.cell? ⟨pc, 1, none⟩ = some (.slice (some ⟨ps, 0, none⟩) a.length a.length)) (ds := [9]) #[false, false, false, false, false, false, false, false, false, false] (by kernel_rfl) rfl rfl (HK4.out) (fun hHeld => ?_)
        rw [← hW4] at hHeld ⊢
        clear hW4
        refine pure_ (i := 0) (N := some 54) (v := ?_) (a' := ?_) #[true, false, false, false, false, false, false, false, false, false] rfl rfl (by kernel_rfl) (fun _ _ _ h => h) (Or.inl ⟨by rfl, ?_⟩) ?_ ?_
        rotate_left
        · intro w'
          go_simp
          with_reducible rfl
        rotate_left
        · simp only [Act.put, List.setIfInBounds_toArray, List.set_cons_zero, List.set_cons_succ, i64_w, i32_w]
          rfl
        refine pure_ (i := 1) (N := some 55) (v := ?_) (a' := ?_) #[true, true, false, false, false, false, false, false, false, false] rfl rfl (by kernel_rfl) (fun _ _ _ h => h) (Or.inl ⟨by rfl, ?_⟩) ?_ ?_
        rotate_left
        · intro w'
          go_simp
          with_reducible rfl
        rotate_left
        · simp only [Act.put, List.setIfInBounds_toArray, List.set_cons_zero, List.set_cons_succ, i64_w, i32_w]
          rfl
        refine pure_ (i := 2) (N := some 56) (v := ?_) (a' := ?_) #[true, true, true, false, false, false, false, false, false, false] rfl rfl (by kernel_rfl) (fun _ _ _ h => h) (Or.inl ⟨by rfl, ?_⟩) ?_ ?_
        rotate_left
        · intro w'
          go_simp
          with_reducible rfl
        rotate_left
        · simp only [Act.put, List.setIfInBounds_toArray, List.set_cons_zero, List.set_cons_succ, i64_w, i32_w]
          rfl
        refine pure_ (i := 4) (N := some 58) (v := ?_) (a' := ?_) #[true, true, true, false, true, false, false, false, false, false] rfl rfl (by kernel_rfl) (fun _ _ _ h => h) (Or.inl ⟨by rfl, ?_⟩) ?_ ?_
        rotate_left
        · intro w'
          go_simp
          with_reducible rfl
        rotate_left
        · simp only [Act.put, List.setIfInBounds_toArray, List.set_cons_zero, List.set_cons_succ, i64_w, i32_w]
          rfl
        refine pure_ (i := 5) (N := some 59) (v := ?_) (a' := ?_) #[true, true, true, false, true, true, false, false, false, false] rfl rfl (by kernel_rfl) (fun _ _ _ h => h) (Or.inl ⟨by rfl, ?_⟩) ?_ ?_
        rotate_left
        · intro w'
          go_simp
          with_reducible rfl
        rotate_left
        · simp only [Act.put, List.setIfInBounds_toArray, List.set_cons_zero, List.set_cons_succ, i64_w, i32_w]
          rfl
        refine pure_ (i := 6) (N := some 60) (v := ?_) (a' := ?_) #[true, true, true, false, true, true, true, false, false, false] rfl rfl (by kernel_rfl) (fun _ _ _ h => h) (Or.inl ⟨by rfl, ?_⟩) ?_ ?_
        rotate_left
        · intro w'
          go_simp
          with_reducible rfl
        rotate_left
        · simp only [Act.put, List.setIfInBounds_toArray, List.set_cons_zero, List.set_cons_succ, i64_w, i32_w]
          rfl
        refine take_ (i := 3) (N := some 57) (v := ?_) (a' := ?_) #[true, true, true, true, true, true, true, false, false, false] rfl rfl (by kernel_rfl) (fun _ _ _ h => h) (Or.inl ⟨by rfl, ?_⟩) hHeld ?_ ?_
        rotate_left
        · intro w' s0
          go_simp
          with_reducible rfl
        rotate_left
        · simp only [Act.put, List.setIfInBounds_toArray, List.set_cons_zero, List.set_cons_succ, i64_w, i32_w]
          rfl
        refine one_ (i := 7) (N := some 61) #[true, true, true, true, true, true, true, true, false, false] rfl rfl (by kernel_rfl) (by decide) (fun K hK => ?_)
        refine goesT_ caps (#[.int .i64 (i : Int)] ++ caps) HF.out hname hbo #[.int .i64 (i : Int)] rfl (by rfl) rfl rfl (by rfl) (by simp only [List.map_toArray, List.map_cons, List.map_nil]; rfl) ?_
        with_reducible refine (HCI.out _ _ _ W4 HT4.out).mono ?_
        rintro e w5 ⟨rfl, ⟨nd, rfl⟩⟩
        refine ⟨_, rfl, ?_⟩
        have HT5 := Aside0.mk (HT4.out.below HOKg.out (pw_below_drewN (Below.refl _ _) nd))
        obtain ⟨W5, hW5⟩ : ∃ W5, W4.drewN nd = W5 := ⟨_, rfl⟩
        rw [hW5] at HT5 ⊢
        clear hW5
        have hcx : W5.cell? ⟨ps, i, none⟩ = some (.int .i64 x) := (blk_cell HT5.out.hs i).trans HMX.out
        have hcf := blk_frozen HT5.out.hs i
        refine hK.out _ _ ((blk_cell HT5.out.hc 1).trans rfl) (fun hHeld => ?_)
        clear hK K
        refine norm_ (a' := ?_) ?_ ?_
        rotate_left
        · show Act.put _ (some 61) _ = _
          simp only [Act.put, List.setIfInBounds_toArray, List.set_cons_zero, List.set_cons_succ, i64_w, i32_w]
          rfl
        refine pure_ (i := 8) (N := some 62) (v := ?_) (a' := ?_) #[true, true, true, true, true, true, true, true, true, false] rfl rfl (by kernel_rfl) (fun _ _ _ h => h) (Or.inl ⟨by rfl, ?_⟩) ?_ ?_
        rotate_left
        · intro w'
          go_simp
          with_reducible rfl
        rotate_left
        · simp only [Act.put, List.setIfInBounds_toArray, List.set_cons_zero, List.set_cons_succ, i64_w, i32_w]
          rfl
        refine last_ (i := 9) (N := none) #[true, true, true, true, true, true, true, true, true, true] rfl rfl (by kernel_rfl) (by decide) (fun K hK => ?_)
        refine skip_ (w1 := ?_) (by rfl) rfl ?_ ?_
        rotate_left
        · go_simp
          rfl
        refine hK.out _ _ ?_
        clear hK K
        refine done_ (by kernel_rfl) ?_

        have HTf := Aside0.mk (HT5.out.put HOKg.out i y)
        rw [HY.out, mixL_set a a' i HI2.out HI3.out, ← HY.out] at HTf
        obtain ⟨W12, hW12⟩ : ∃ W12, W5.setCell ⟨ps, i, none⟩ (.int .i64 y) = W12 := ⟨_, rfl⟩
        rw [hW12] at HTf ⊢
        clear hW12 hcx hcf
        go_wp2
        go_roundg (a.length - (i + 1))
        case measure => have := HI.out; have := HI2.out; omega
        case rel => exact ⟨i + 1, _, (by rw [someP_succ _ _ _ _ i HI2.out HI3.out, ← HSO.out, ← HX.out, ← HY.out]; simp), (by have h1 := HI2.out; have h2 := HLN.out; rw [wrap_nat (by omega)]), ⟨HI2.out, rfl⟩, ⟨by rw [take_snoc _ i _ (spans_at a a' i HI2.out HI3.out), ← HKS.out, ← HX.out, ← HY.out]; exact HTf.out⟩⟩
      | false =>
        go_wp2_with (first | ((with_reducible refine gate_dst (N := 50) rfl ?_); (try (refine gate_guard (by rfl) ?_; dsimp only)); refine goesTL_ (some 50) rfl rfl caps (#[.int .i64 (i : Int)] ++ caps) HF.out hname hbo #[.int .i64 (i : Int)] rfl rfl (by rfl) (by simp only [List.map_toArray, List.map_cons, List.map_nil]; rfl) ?_; (with_reducible refine (HCI.out _ _ _ W9 HT8.out).mono ?_); rintro e w10 ⟨rfl, ⟨nd2, rfl⟩⟩; refine ⟨_, rfl, ?_⟩; have HTa := Aside0.mk (HT8.out.below HOKg.out (pw_below_drewN (Below.refl _ _) nd2)); clear HT8; obtain ⟨W10, hW10⟩ : ∃ W10, W9.drewN nd2 = W10 := ⟨_, rfl⟩; rw [hW10] at HTa ⊢; clear hW10; have HT8 := HTa; clear HTa))
        have HT4 := Aside0.mk (HT8.out.below HOKg.out (below_drew (Below.refl _ _)))
        have HK4 : Aside0 (W10.drew.cell? ⟨pc, 1, none⟩ = some (.slice (some ⟨ps, 0, none⟩) a.length a.length)) := ⟨(blk_cell HT4.out.hc 1).trans rfl⟩
        obtain ⟨W4, hW4⟩ : ∃ W4, W4 = W10.drew := ⟨_, rfl⟩
        rw [← hW4] at HT4
        refine start_ (n := 10) (S := fun w' => w'.cell? ⟨pc, 1, none⟩ = some (.slice (some ⟨ps, 0, none⟩) a.length a.length)) (ds := [9]) #[false, false, false, false, false, false, false, false, false, false] (by kernel_rfl) rfl rfl (HK4.out) (fun hHeld => ?_)
        rw [← hW4] at hHeld ⊢
        clear hW4
        refine pure_ (i := 0) (N := some 54) (v := ?_) (a' := ?_) #[true, false, false, false, false, false, false, false, false, false] rfl rfl (by kernel_rfl) (fun _ _ _ h => h) (Or.inl ⟨by rfl, ?_⟩) ?_ ?_
        rotate_left
        · intro w'
          go_simp
          with_reducible rfl
        rotate_left
        · simp only [Act.put, List.setIfInBounds_toArray, List.set_cons_zero, List.set_cons_succ, i64_w, i32_w]
          rfl
        refine pure_ (i := 1) (N := some 55) (v := ?_) (a' := ?_) #[true, true, false, false, false, false, false, false, false, false] rfl rfl (by kernel_rfl) (fun _ _ _ h => h) (Or.inl ⟨by rfl, ?_⟩) ?_ ?_
        rotate_left
        · intro w'
          go_simp
          with_reducible rfl
        rotate_left
        · simp only [Act.put, List.setIfInBounds_toArray, List.set_cons_zero, List.set_cons_succ, i64_w, i32_w]
          rfl
        refine pure_ (i := 2) (N := some 56) (v := ?_) (a' := ?_) #[true, true, true, false, false, false, false, false, false, false] rfl rfl (by kernel_rfl) (fun _ _ _ h => h) (Or.inl ⟨by rfl, ?_⟩) ?_ ?_
        rotate_left
        · intro w'
          go_simp
          with_reducible rfl
        rotate_left
        · simp only [Act.put, List.setIfInBounds_toArray, List.set_cons_zero, List.set_cons_succ, i64_w, i32_w]
          rfl
        refine pure_ (i := 4) (N := some 58) (v := ?_) (a' := ?_) #[true, true, true, false, true, false, false, false, false, false] rfl rfl (by kernel_rfl) (fun _ _ _ h => h) (Or.inl ⟨by rfl, ?_⟩) ?_ ?_
        rotate_left
        · intro w'
          go_simp
          with_reducible rfl
        rotate_left
        · simp only [Act.put, List.setIfInBounds_toArray, List.set_cons_zero, List.set_cons_succ, i64_w, i32_w]
          rfl
        refine pure_ (i := 5) (N := some 59) (v := ?_) (a' := ?_) #[true, true, true, false, true, true, false, false, false, false] rfl rfl (by kernel_rfl) (fun _ _ _ h => h) (Or.inl ⟨by rfl, ?_⟩) ?_ ?_
        rotate_left
        · intro w'
          go_simp
          with_reducible rfl
        rotate_left
        · simp only [Act.put, List.setIfInBounds_toArray, List.set_cons_zero, List.set_cons_succ, i64_w, i32_w]
          rfl
        refine pure_ (i := 6) (N := some 60) (v := ?_) (a' := ?_) #[true, true, true, false, true, true, true, false, false, false] rfl rfl (by kernel_rfl) (fun _ _ _ h => h) (Or.inl ⟨by rfl, ?_⟩) ?_ ?_
        rotate_left
        · intro w'
          go_simp
          with_reducible rfl
        rotate_left
        · simp only [Act.put, List.setIfInBounds_toArray, List.set_cons_zero, List.set_cons_succ, i64_w, i32_w]
          rfl
        refine take_ (i := 3) (N := some 57) (v := ?_) (a' := ?_) #[true, true, true, true, true, true, true, false, false, false] rfl rfl (by kernel_rfl) (fun _ _ _ h => h) (Or.inl ⟨by rfl, ?_⟩) hHeld ?_ ?_
        rotate_left
        · intro w' s0
          go_simp
          with_reducible rfl
        rotate_left
        · simp only [Act.put, List.setIfInBounds_toArray, List.set_cons_zero, List.set_cons_succ, i64_w, i32_w]
          rfl
        refine one_ (i := 7) (N := some 61) #[true, true, true, true, true, true, true, true, false, false] rfl rfl (by kernel_rfl) (by decide) (fun K hK => ?_)
        refine goesT_ caps (#[.int .i64 (i : Int)] ++ caps) HF.out hname hbo #[.int .i64 (i : Int)] rfl (by rfl) rfl rfl (by rfl) (by simp only [List.map_toArray, List.map_cons, List.map_nil]; rfl) ?_
        with_reducible refine (HCI.out _ _ _ W4 HT4.out).mono ?_
        rintro e w5 ⟨rfl, ⟨nd, rfl⟩⟩
        refine ⟨_, rfl, ?_⟩
        have HT5 := Aside0.mk (HT4.out.below HOKg.out (pw_below_drewN (Below.refl _ _) nd))
        obtain ⟨W5, hW5⟩ : ∃ W5, W4.drewN nd = W5 := ⟨_, rfl⟩
        rw [hW5] at HT5 ⊢
        clear hW5
        have hcx : W5.cell? ⟨ps, i, none⟩ = some (.int .i64 x) := (blk_cell HT5.out.hs i).trans HMX.out
        have hcf := blk_frozen HT5.out.hs i
        refine hK.out _ _ ((blk_cell HT5.out.hc 1).trans rfl) (fun hHeld => ?_)
        clear hK K
        refine norm_ (a' := ?_) ?_ ?_
        rotate_left
        · show Act.put _ (some 61) _ = _
          simp only [Act.put, List.setIfInBounds_toArray, List.set_cons_zero, List.set_cons_succ, i64_w, i32_w]
          rfl
        refine pure_ (i := 8) (N := some 62) (v := ?_) (a' := ?_) #[true, true, true, true, true, true, true, true, true, false] rfl rfl (by kernel_rfl) (fun _ _ _ h => h) (Or.inl ⟨by rfl, ?_⟩) ?_ ?_
        rotate_left
        · intro w'
          go_simp
          with_reducible rfl
        rotate_left
        · simp only [Act.put, List.setIfInBounds_toArray, List.set_cons_zero, List.set_cons_succ, i64_w, i32_w]
          rfl
        refine last_ (i := 9) (N := none) #[true, true, true, true, true, true, true, true, true, true] rfl rfl (by kernel_rfl) (by decide) (fun K hK => ?_)
        refine skip_ (w1 := ?_) (by rfl) rfl ?_ ?_
        rotate_left
        · go_simp
          rfl
        refine hK.out _ _ ?_
        clear hK K
        refine done_ (by kernel_rfl) ?_

        have HTf := Aside0.mk (HT5.out.put HOKg.out i y)
        rw [HY.out, mixL_set a a' i HI2.out HI3.out, ← HY.out] at HTf
        obtain ⟨W12, hW12⟩ : ∃ W12, W5.setCell ⟨ps, i, none⟩ (.int .i64 y) = W12 := ⟨_, rfl⟩
        rw [hW12] at HTf ⊢
        clear hW12 hcx hcf
        go_wp2
        go_roundg (a.length - (i + 1))
        case measure => have := HI.out; have := HI2.out; omega
        case rel => exact ⟨i + 1, _, (by rw [someP_succ _ _ _ _ i HI2.out HI3.out, ← HSO.out, ← HX.out, ← HY.out]; simp), (by have h1 := HI2.out; have h2 := HLN.out; rw [wrap_nat (by omega)]), ⟨HI2.out, rfl⟩, ⟨by rw [take_snoc _ i _ (spans_at a a' i HI2.out HI3.out), ← HKS.out, ← HX.out, ← HY.out]; exact HTf.out⟩⟩
    · have hi : i = a.length := by have := HI.out; omega
      subst hi
      have hso : so = someB b b' a a' := by
        rw [HSO.out]
        unfold someP someB
        rw [List.take_of_length_le (by rw [List.length_zip]; omega)]
      have hks : ks = spans a a' := by
        rw [HKS.out]
        exact List.take_of_length_le (by have := HLN.out.1; simp [spans]; omega)
      have hcs : mixL a a' a.length = a' := by
        unfold mixL
        rw [List.drop_length, List.append_nil, List.take_of_length_le (by have := HLN.out.1; omega)]
      rw [hcs] at HT
      have HKE := Aside0.mk hks
      have HSE := Aside0.mk hso
      clear hso hks hcs
      cases so with
      | false =>
        have hp0 : wr.cell? ⟨pc, 0, none⟩ = some (.int .i64 (b : Int)) := (blk_cell HT.out.hc 0).trans rfl
        have hf0 := blk_frozen HT.out.hc 0
        go_wp2
        first | go_end0 | (simp only [Exit.inBlock, Exit.then]; refine bodyPost_ret (results_none rfl _ _ _) rfl ?_) | refine bodyPost_ret (results_none rfl _ _ _) rfl ?_ | trace_state
        obtain ⟨q1, q2⟩ := CutW.fin (ov := .slice Ao out.length co) (b' := (b' : Int)) HOKg.out HLN.out.1 HT.out.hc HT.out.hs (Kd.S_mono HT.out.ho (fun k hk => hk.2)) HT.out.hb (fun k hk1 hk2 hk3 _ => HT.out.hq k hk1 hk2 hk3)
        rw [HRES.out, ← HSE.out, if_neg (by decide)]
        first | exact ⟨⟨_, rfl⟩, _, q1, q2.1, by rw [← HGC.out]; exact q2.2⟩ | exact ⟨⟨_, rfl⟩, ⟨_, q1⟩, q2.1, by rw [← HGC.out]; exact q2.2⟩
      | true =>
        go_wp2
        have HT4 := Aside0.mk (HT.out.below HOKg.out (below_drew (Below.refl _ _)))
        have HT4d := HT4
        obtain ⟨W4, hW4⟩ : ∃ W4, W4 = wr.drew := ⟨_, rfl⟩
        rw [← hW4] at HT4
        refine start_ (n := 11) (S := fun w' => w'.cell? ⟨pc, 2, none⟩ = some (.slice Ao out.length co) ∧ w'.cell? ⟨gc, 0, none⟩ = some (.bool st) ∧ w'.cell? ⟨gc, 1, none⟩ = some (.int .i64 (b : Int)) ∧ w'.cell? ⟨gc, 2, none⟩ = some (.int .i64 (b' : Int)) ∧ w'.cell? ⟨gc, 3, none⟩ = some (.slice Av ks.length cv)) (ds := [7, 10]) #[false, false, false, false, false, false, false, false, false, false, false] (by kernel_rfl) rfl rfl ⟨(blk_cell HT4d.out.hc 2).trans rfl, (blk_cell HT4d.out.hk 0).trans rfl, (blk_cell HT4d.out.hk 1).trans rfl, (blk_cell HT4d.out.hk 2).trans rfl, (blk_cell HT4d.out.hk 3).trans rfl⟩ (fun hHeld => ?_)
        rw [← hW4] at hHeld ⊢
        clear hW4
        refine pure_ (i := 0) (N := some 65) (v := ?_) (a' := ?_) #[true, false, false, false, false, false, false, false, false, false, false] rfl rfl (by kernel_rfl) (fun _ _ _ h => h) (Or.inl ⟨by rfl, ?_⟩) ?_ ?_
        rotate_left
        · intro w'
          go_simp
          with_reducible rfl
        rotate_left
        · simp only [Act.put, List.setIfInBounds_toArray, List.set_cons_zero, List.set_cons_succ, i64_w, i32_w]
          rfl
        refine pure_ (i := 1) (N := some 66) (v := ?_) (a' := ?_) #[true, true, false, false, false, false, false, false, false, false, false] rfl rfl (by kernel_rfl) (fun _ _ _ h => h) (Or.inl ⟨by rfl, ?_⟩) ?_ ?_
        rotate_left
        · intro w'
          go_simp
          with_reducible rfl
        rotate_left
        · simp only [Act.put, List.setIfInBounds_toArray, List.set_cons_zero, List.set_cons_succ, i64_w, i32_w]
          rfl
        refine pure_ (i := 2) (N := some 67) (v := ?_) (a' := ?_) #[true, true, true, false, false, false, false, false, false, false, false] rfl rfl (by kernel_rfl) (fun _ _ _ h => h) (Or.inl ⟨by rfl, ?_⟩) ?_ ?_
        rotate_left
        · intro w'
          go_simp
          with_reducible rfl
        rotate_left
        · simp only [Act.put, List.setIfInBounds_toArray, List.set_cons_zero, List.set_cons_succ, i64_w, i32_w]
          rfl
        refine pure_ (i := 3) (N := some 68) (v := ?_) (a' := ?_) #[true, true, true, true, false, false, false, false, false, false, false] rfl rfl (by kernel_rfl) (fun _ _ _ h => h) (Or.inl ⟨by rfl, ?_⟩) ?_ ?_
        rotate_left
        · intro w'
          go_simp
          with_reducible rfl
        rotate_left
        · simp only [Act.put, List.setIfInBounds_toArray, List.set_cons_zero, List.set_cons_succ, i64_w, i32_w]
          rfl
        refine take_ (i := 4) (N := some 69) (v := ?_) (a' := ?_) #[true, true, true, true, true, false, false, false, false, false, false] rfl rfl (by kernel_rfl) (fun _ _ _ h => h) (Or.inl ⟨by rfl, ?_⟩) hHeld ?_ ?_
        rotate_left
        · rintro w' ⟨s0, s1, s2, s3, s4⟩
          go_simp
          with_reducible rfl
        rotate_left
        · simp only [Act.put, List.setIfInBounds_toArray, List.set_cons_zero, List.set_cons_succ, i64_w, i32_w]
          rfl
        refine take_ (i := 5) (N := some 70) (v := ?_) (a' := ?_) #[true, true, true, true, true, true, false, false, false, false, false] rfl rfl (by kernel_rfl) (fun _ _ _ h => h) (Or.inl ⟨by rfl, ?_⟩) hHeld ?_ ?_
        rotate_left
        · rintro w' ⟨s0, s1, s2, s3, s4⟩
          go_simp
          with_reducible rfl
        rotate_left
        · simp only [Act.put, List.setIfInBounds_toArray, List.set_cons_zero, List.set_cons_succ, i64_w, i32_w]
          rfl
        refine one_ (i := 6) (N := some 71) #[true, true, true, true, true, true, true, false, false, false, false] rfl rfl (by kernel_rfl) (by decide) (fun K hK => ?_)
        refine value_ (w1 := ?_) (v := ?_) (by rfl) rfl ?_ ?_
        rotate_left 2
        · go_simp
          constructor
          · rfl
          · rfl
        refine hK.out _ _ ⟨(blk_cell (HT4.out.below HOKg.out (below_alloc (Below.refl _ _) _)).hc 2).trans rfl, (blk_cell (HT4.out.below HOKg.out (below_alloc (Below.refl _ _) _)).hk 0).trans rfl, (blk_cell (HT4.out.below HOKg.out (below_alloc (Below.refl _ _) _)).hk 1).trans rfl, (blk_cell (HT4.out.below HOKg.out (below_alloc (Below.refl _ _) _)).hk 2).trans rfl, (blk_cell (HT4.out.below HOKg.out (below_alloc (Below.refl _ _) _)).hk 3).trans rfl⟩ (fun hHeld => ?_)
        clear hK K
        refine norm_ (a' := ?_) ?_ ?_
        rotate_left
        · show Act.put _ (some 71) _ = _
          simp only [Act.put, List.setIfInBounds_toArray, List.set_cons_zero, List.set_cons_succ, i64_w, i32_w]
          rfl
        refine last_ (i := 7) (N := some 72) #[true, true, true, true, true, true, true, true, false, false, false] rfl rfl (by kernel_rfl) (by decide) (fun K hK => ?_)
        refine Kd.S_append_step k39 (w0 := w) n₀ (by rfl) (.tmp 69) (.tmp 71) 32 39 (.agg #[(.bool false), (.int .i64 0), (.int .i64 0), (.slice none 0 0)]) 48 rfl Try.underlying32 info39' rfl (by decide) (by omega) (.slice Ao out.length co) out (⟨st, ⟨b, b'⟩, ks⟩ : S39) [.bool st, .int .i64 (b : Int), .int .i64 (b' : Int), .slice Av ks.length cv] (fun k => k ≠ pc ∧ k ≠ ps) (fun k => gc < k) rfl rfl (k39_mkM _ _ _ (⟨st, ⟨b, b'⟩, ks⟩ : S39) (Kd.R_lower (Kd.R_mono (Kd.R_bound HT4.out.hv) (fun k hk => by have := hk.2.1; omega)) (by have := HOKg.out.n0; omega))) (fun k hk => ⟨⟨by have := HOKg.out.pcN; omega, by have := HOKg.out.psN; omega⟩, fun he => by have := Kd.S_lt HC.out.ho k he.symm; have := HGC.out; omega⟩) (fun k hk => ⟨by have := HOKg.out.pcN; have := HT4.out.sz; omega, by have := HOKg.out.psN; have := HT4.out.sz; omega⟩) (Kd.S_mono HT4.out.ho (fun k hk => ⟨hk.2, by have := hk.1; omega⟩)) HT4.out.hb (by have := HT4.out.sz; have := HOKg.out.n0; omega) (by have := HLN.out; omega) ?_
        intro v1 w8 hr8 hb8 hg8 hat8
        obtain ⟨A8, c8, e9⟩ := Kd.S_slice hr8
        rw [List.length_append, List.length_singleton] at e9
        subst e9
        obtain ⟨hk8, hA8⟩ := HT4.out.app HOKg.out hr8 hb8 hg8
        have HA8 := Aside0.mk (hA8 _ rfl)
        have hk8c : w8.cell? ⟨pc, 2, none⟩ = some (.slice Ao out.length co) := (blk_cell hk8 2).trans rfl
        have hk8f := blk_frozen hk8 2
        clear hr8 hb8 hg8 hat8 hk8 hA8
        refine hK.out _ _ ?_
        clear hK K
        refine norm_ (a' := ?_) ?_ ?_
        rotate_left
        · show Act.put _ (some 72) _ = _
          simp only [Act.put, List.setIfInBounds_toArray, List.set_cons_zero, List.set_cons_succ, i64_w, i32_w]
          rfl
        refine pure_ (i := 8) (N := some 73) (v := ?_) (a' := ?_) #[true, true, true, true, true, true, true, true, true, false, false] rfl rfl (by kernel_rfl) (fun _ _ _ h => h) (Or.inl ⟨by rfl, ?_⟩) ?_ ?_
        rotate_left
        · intro w'
          go_simp
          with_reducible rfl
        rotate_left
        · simp only [Act.put, List.setIfInBounds_toArray, List.set_cons_zero, List.set_cons_succ, i64_w, i32_w]
          rfl
        refine pure_ (i := 9) (N := some 74) (v := ?_) (a' := ?_) #[true, true, true, true, true, true, true, true, true, true, false] rfl rfl (by kernel_rfl) (fun _ _ _ h => h) (Or.inl ⟨by rfl, ?_⟩) ?_ ?_
        rotate_left
        · intro w'
          go_simp
          with_reducible rfl
        rotate_left
        · simp only [Act.put, List.setIfInBounds_toArray, List.set_cons_zero, List.set_cons_succ, i64_w, i32_w]
          rfl
        refine last_ (i := 10) (N := none) #[true, true, true, true, true, true, true, true, true, true, true] rfl rfl (by kernel_rfl) (by decide) (fun K hK => ?_)
        refine skip_ (w1 := ?_) (by rfl) rfl ?_ ?_
        rotate_left
        · go_simp
          rfl
        refine hK.out _ _ ?_
        clear hK K
        refine done_ (by kernel_rfl) ?_

        obtain ⟨W9, hW9⟩ : ∃ W9, w8.setCell ⟨pc, 2, none⟩ (.slice A8 (out.length + 1) c8) = W9 := ⟨_, rfl⟩
        rw [hW9] at HA8 ⊢
        clear hW9 hk8c hk8f
        have hp0 : W9.cell? ⟨pc, 0, none⟩ = some (.int .i64 (b : Int)) := (blk_cell HA8.out.1 0).trans rfl
        have hf0 := blk_frozen HA8.out.1 0
        go_wp2
        first | go_end0 | (simp only [Exit.inBlock, Exit.then]; refine bodyPost_ret (results_none rfl _ _ _) rfl ?_) | refine bodyPost_ret (results_none rfl _ _ _) rfl ?_ | trace_state
        obtain ⟨q1, q2⟩ := CutW.fin (b' := (b' : Int)) HOKg.out HLN.out.1 HA8.out.1 HA8.out.2.1 HA8.out.2.2.1 HA8.out.2.2.2.1 HA8.out.2.2.2.2
        rw [HRES.out, ← HSE.out, if_pos rfl, ← HKE.out]
        first | exact ⟨⟨_, rfl⟩, _, q1, q2.1, by rw [← HGC.out]; exact q2.2⟩ | exact ⟨⟨_, rfl⟩, ⟨_, q1⟩, q2.1, by rw [← HGC.out]; exact q2.2⟩
end Go.Proofs.Ytnebadlakmlkkaa.M
namespace Go.Proofs.Ytnebadlakmlkkaa.M
set_option linter.unusedVariables false
structure CutSt where
  base : Nat
  at_ : List Int
  out : List S39
def toG (s : CutSt) (st : Bool) (b : Nat) (a : List Int) : CutSt := ⟨b, a, if someB s.base b s.at_ a = true then s.out ++ [⟨st, ⟨s.base, b⟩, spans s.at_ a⟩] else s.out⟩
def atG (M : List (List Int)) (k : Nat) (more : Int) : List Int := M.map (fun l => l.getD k 0 + more)
def endG (M : List (List Int)) (m k : Nat) : Nat := runF M (m - (k + 1)) (k + 1)
def loopA (M : List (List Int)) (m : Nat) : Nat → Nat → CutSt → CutSt
  | 0, _, s => s
  | d + 1, k, s => if k < m then (if stabB M k = true then loopA M m d (endG M m k) (toG (toG s false k (atG M k 0)) true (endG M m k) (atG M (endG M m k - 1) 1)) else loopA M m d (k + 1) s) else s
def alignG (M : List (List Int)) (m : Nat) (sizes : List Int) : List S39 := (toG (loopA M m (m + 1) 0 ⟨0, List.replicate sizes.length 0, []⟩) false m sizes).out
theorem runF_le (M : List (List Int)) : ∀ d e, e ≤ runF M d e ∧ runF M d e ≤ e + d
  | 0, e => ⟨Nat.le_refl _, Nat.le_refl _⟩
  | d + 1, e => by
    simp only [runF]
    split
    · have := runF_le M d (e + 1)
      omega
    · omega
theorem atG_len (M : List (List Int)) (k : Nat) (more : Int) : (atG M k more).length = M.length := by simp [atG]
theorem atG_at (M : List (List Int)) (k : Nat) (more : Int) (i : Nat) (h : i < M.length) : (atG M k more).getD i 0 = (M.getD i []).getD k 0 + more := by
  unfold atG
  simp [List.getD_eq_getElem?_getD, h]
theorem toG_out_len (s : CutSt) (st : Bool) (b : Nat) (a : List Int) : (toG s st b a).out.length ≤ s.out.length + 1 := by
  simp only [toG]
  split <;> simp
end Go.Proofs.Ytnebadlakmlkkaa.M
namespace Go.Proofs.Ytnebadlakmlkkaa.M
open Go.RowKit Go.Proofs Go.Proofs.Ytnebadlakmlkkaa.Hand Go.Proofs.YtnebadlakmlkkaaW.PrintWords Go.Proofs.YtnebadlakmlkkaaW.PrintLast Go.Proofs.YtnebadlakmlkkaaW.PrintMore
attribute [local go_sem] Oper.semAt_some
set_option linter.unusedVariables false
set_option linter.unusedSimpArgs false

/-- The matches are told of, here. -/
def okAl (a0 : Int) (l1 : List Int) (l2 : List (List Int)) : Bool :=
  decide (0 ≤ a0 ∧ a0 ≤ 1000 ∧ 1 ≤ l2.length ∧ l2.length ≤ 16 ∧ l1.length = l2.length) && (l2.all fun l => decide ((l.length : Int) = a0) && l.all fun x => decide (-1 ≤ x ∧ x ≤ 1000)) &&
    (List.range l2.length).all fun i => decide (align_may.f 3000 (l2.getD i []) a0 (l1.getD i 0) = some true)
def align_Align.f (k : Nat) (a0 : Int) (l1 : List Int) (l2 : List (List Int)) : Option (List S39 × Int) := if l2 = [] then some ([], 1) else if okAl a0 l1 l2 = true then some (alignG l2 a0.toNat l1, 0) else none
theorem align_Align.mono : ∀ a0 a1 a2 k, LeO (align_Align.f k a0 a1 a2) (align_Align.f (k + 1) a0 a1 a2) := fun _ _ _ _ => LeO.refl _
structure OkAl (m : Nat) (l1 : List Int) (l2 : List (List Int)) : Prop where
  m6 : m ≤ 1000
  lo : 1 ≤ l2.length
  hi : l2.length ≤ 16
  len : l1.length = l2.length
  row : ∀ i < l2.length, (l2.getD i []).length = m
  val : ∀ i j, -1 ≤ (l2.getD i []).getD j 0 ∧ (l2.getD i []).getD j 0 ≤ 1000
  may : ∀ i < l2.length, align_may.f 3000 (l2.getD i []) (m : Int) (l1.getD i 0) = some true
theorem okAl_of {a0 : Int} {l1 : List Int} {l2 : List (List Int)} (h : okAl a0 l1 l2 = true) : a0 = (a0.toNat : Int) ∧ OkAl a0.toNat l1 l2 := by
  simp only [okAl, Bool.and_eq_true, decide_eq_true_eq, List.all_eq_true, List.mem_range] at h
  obtain ⟨⟨⟨h0, h1, h2, h3, h4⟩, h5⟩, h6⟩ := h
  have e : a0 = (a0.toNat : Int) := by omega
  have hmem : ∀ i < l2.length, l2.getD i [] ∈ l2 := fun i hi => by
    rw [List.getD_eq_getElem?_getD, List.getElem?_eq_getElem hi]; exact List.getElem_mem hi
  refine ⟨e, by omega, h2, h3, h4, fun i hi => ?_, fun i j => ?_, fun i hi => ?_⟩
  · have := (h5 _ (hmem i hi)).1
    omega
  · by_cases hi : i < l2.length
    · by_cases hj : j < (l2.getD i []).length
      · refine (h5 _ (hmem i hi)).2 _ ?_
        rw [List.getD_eq_getElem?_getD (l := l2.getD i []), List.getElem?_eq_getElem hj]; exact List.getElem_mem hj
      · rw [List.getD_eq_getElem?_getD (l := l2.getD i []), List.getElem?_eq_none (by omega)]; decide
    · rw [show l2.getD i [] = [] from by rw [List.getD_eq_getElem?_getD, List.getElem?_eq_none (by omega)]; rfl]
      simp
  · rw [← e]; exact h6 i hi

/-- What holds in Align's loop. -/
structure AlS (w : World) (bz bm pc ps bk : Nat) (A1 : Option Addr) (c1 : Nat) (l1 : List Int) (A2 : Option Addr) (c2 : Nat) (l2 : List (List Int)) (k : Nat) (s : CutSt) (ov : Value) (W : World) : Prop where
  hz : W.heap[bz]? = some (.cells #[.slice A1 l2.length c1] 26 (0, 0))
  hm : W.heap[bm]? = some (.cells #[.slice A2 l2.length c2] 27 (0, 0))
  hk : W.heap[bk]? = some (.cells #[.int .i64 (k : Int)] 3 (0, 0))
  hC : CutW w.heap.size pc ps s.base s.at_ ov s.out W
  hb : Below w.heap.size w W
  zn : w.heap.size ≤ bz
  mn : w.heap.size ≤ bm
  kn : w.heap.size ≤ bk
  pn : w.heap.size ≤ pc
  sn : w.heap.size ≤ ps
  ks : bk ≠ ps
  len : s.at_.length = l2.length
section
variable {w W W' : World} {bz bm pc ps bk : Nat} {A1 A2 : Option Addr} {c1 c2 : Nat} {l1 : List Int} {l2 : List (List Int)} {k : Nat} {s : CutSt} {ov : Value}
theorem made_zeros (n : Nat) : madeCells #[Value.int .i64 0] n = ((List.replicate n (0 : Int)).map (Value.int .i64)).toArray := by
  apply Array.ext'
  simp only [madeCells]
  apply List.ext_getElem
  · simp
  · intro i h1 h2
    simp [Nat.mod_one]
theorem AlS.start {Wr : World} (hz : Wr.heap[bz]? = some (.cells #[.slice A1 l2.length c1] 26 (0, 0))) (hm : Wr.heap[bm]? = some (.cells #[.slice A2 l2.length c2] 27 (0, 0))) (hb : Below w.heap.size w Wr) (zn : w.heap.size ≤ bz) (mn : w.heap.size ≤ bm) :
    AlS w bz bm (Wr.heap.size + 1) Wr.heap.size (Wr.heap.size + 1 + 1) A1 c1 l1 A2 c2 l2 0 ⟨0, List.replicate l2.length 0, []⟩ (.slice none 0 0)
      (((Wr.alloc (.cells (madeCells #[.int .i64 0] l2.length) 3)).alloc (.cells #[.int .i64 0, .slice (some ⟨Wr.heap.size, 0, none⟩) l2.length l2.length, .slice none 0 0] 76)).alloc (.cells #[.int .i64 0] 3)) := by
  have q0 := blk_new Wr (.cells (madeCells #[.int .i64 0] l2.length) 3)
  generalize hW1 : Wr.alloc (.cells (madeCells #[.int .i64 0] l2.length) 3) = W1 at q0 ⊢
  have s1 : W1.heap.size = Wr.heap.size + 1 := by rw [← hW1]; simp
  have b1 : Below Wr.heap.size Wr W1 := by rw [← hW1]; exact below_alloc (Below.refl _ _) _
  have q1 := blk_new W1 (.cells #[.int .i64 0, .slice (some ⟨Wr.heap.size, 0, none⟩) l2.length l2.length, .slice none 0 0] 76)
  generalize hW2 : W1.alloc (.cells #[.int .i64 0, .slice (some ⟨Wr.heap.size, 0, none⟩) l2.length l2.length, .slice none 0 0] 76) = W2 at q1 ⊢
  have s2 : W2.heap.size = Wr.heap.size + 1 + 1 := by rw [← hW2]; simp [s1]
  have b2 : Below W1.heap.size W1 W2 := by rw [← hW2]; exact below_alloc (Below.refl _ _) _
  have q2 := blk_new W2 (.cells #[.int .i64 0] 3)
  have b3 : Below W2.heap.size W2 (W2.alloc (.cells #[.int .i64 0] 3)) := below_alloc (Below.refl _ _) _
  rw [s2] at q2
  have hle := hb.size
  have g : ∀ (q : Nat) o, Wr.heap[q]? = some o → (W2.alloc (.cells #[.int .i64 0] 3)).heap[q]? = some o := fun q o hq => blk_later (blk_later (blk_later hq b1) b2) b3
  refine ⟨g _ _ hz, g _ _ hm, q2, ⟨?_, ?_, Kd.S_nil _ _ _ _ _⟩, below_step (below_step (below_step hb b1) b2) b3, zn, mn, by omega, by omega, hle, by omega, by simp⟩
  · have := blk_later q1 b3
    rw [s1] at this
    simpa using this
  · have := blk_later (blk_later q0 b2) b3
    rw [made_zeros] at this
    exact this
theorem AlS.below (h : AlS w bz bm pc ps bk A1 c1 l1 A2 c2 l2 k s ov W) (hb : Below W.heap.size W W') : AlS w bz bm pc ps bk A1 c1 l1 A2 c2 l2 k s ov W' :=
  ⟨(hb.block bz (blk_lt h.hz)).trans h.hz, (hb.block bm (blk_lt h.hm)).trans h.hm, (hb.block bk (blk_lt h.hk)).trans h.hk,
    ⟨(hb.block pc (blk_lt h.hC.hc)).trans h.hC.hc, (hb.block ps (blk_lt h.hC.hs)).trans h.hC.hs, Kd.S_below h.hC.ho hb⟩, h.hb.trans (hb.mono h.hb.size), h.zn, h.mn, h.kn, h.pn, h.sn, h.ks, h.len⟩
theorem AlS.ok (h : AlS w bz bm pc ps bk A1 c1 l1 A2 c2 l2 k s ov W) : OkT W.heap.size w.heap.size pc ps :=
  ⟨h.hb.size, h.pn, h.sn, blk_lt h.hC.hc, blk_lt h.hC.hs, blk_ne h.hC.hc h.hC.hs (by decide)⟩
/-- Behind a cut. -/
theorem AlS.to {b' : Nat} {a' : List Int} {st : Bool} {ov' : Value} (h : AlS w bz bm pc ps bk A1 c1 l1 A2 c2 l2 k s ov W) (ha : a'.length = l2.length) (hC : CutW w.heap.size pc ps b' a' ov' (toG s st b' a').out W') (hb : Below w.heap.size W W')
    (hq : ∀ k, k < W.heap.size → k ≠ pc → k ≠ ps → some k ≠ ov.ownBlock → W'.heap[k]? = W.heap[k]?) : AlS w bz bm pc ps bk A1 c1 l1 A2 c2 l2 k (toG s st b' a') ov' W' := by
  have g : ∀ (q t : Nat) cs, W.heap[q]? = some (.cells cs t (0, 0)) → t ≠ 76 → 39 ≠ t → q ≠ ps → W'.heap[q]? = some (.cells cs t (0, 0)) := fun q t cs hx h1 h2 h3 =>
    (hq q (blk_lt hx) (blk_ne hx h.hC.hc h1) h3 (Kd.S_ne h.hC.ho hx h2)).trans hx
  exact ⟨g _ _ _ h.hz (by decide) (by decide) (blk_ne h.hz h.hC.hs (by decide)), g _ _ _ h.hm (by decide) (by decide) (blk_ne h.hm h.hC.hs (by decide)), g _ _ _ h.hk (by decide) (by decide) h.ks, hC, h.hb.trans hb, h.zn, h.mn, h.kn, h.pn, h.sn, h.ks, ha⟩
/-- Behind 'k = x'. -/
theorem AlS.set (h : AlS w bz bm pc ps bk A1 c1 l1 A2 c2 l2 k s ov W) (x : Nat) : AlS w bz bm pc ps bk A1 c1 l1 A2 c2 l2 x s ov (W.setCell ⟨bk, 0, none⟩ (.int .i64 (x : Int))) := by
  have g : ∀ q, q ≠ bk → (W.setCell ⟨bk, 0, none⟩ (.int .i64 (x : Int))).heap[q]? = W.heap[q]? := fun q hq => Below.heap_setCell W ⟨bk, 0, none⟩ _ q hq
  exact ⟨(g bz (blk_ne h.hz h.hk (by decide))).trans h.hz, (g bm (blk_ne h.hm h.hk (by decide))).trans h.hm, blk_put h.hk 0 _ rfl,
    ⟨(g pc (blk_ne h.hC.hc h.hk (by decide))).trans h.hC.hc, (g ps h.ks.symm).trans h.hC.hs, Kd.S_set h.hC.ho h.hk (by decide) 0 _⟩, h.hb.setCell (p := ⟨bk, 0, none⟩) h.kn _, h.zn, h.mn, h.kn, h.pn, h.sn, h.ks, h.len⟩
/-- Another box for k. -/
theorem AlS.rebox {bk' k' : Nat} (h : AlS w bz bm pc ps bk A1 c1 l1 A2 c2 l2 k s ov W) (hx : W.heap[bk']? = some (.cells #[.int .i64 (k' : Int)] 3 (0, 0))) (h1 : w.heap.size ≤ bk') (h2 : bk' ≠ ps) : AlS w bz bm pc ps bk' A1 c1 l1 A2 c2 l2 k' s ov W :=
  ⟨h.hz, h.hm, hx, h.hC, h.hb, h.zn, h.mn, h1, h.pn, h.sn, h2, h.len⟩
end

section
variable {w W : World} {bz bm pc ps bk be : Nat} {A1 A2 : Option Addr} {c1 c2 m : Nat} {l1 : List Int} {l2 : List (List Int)} {k e : Nat} {s : CutSt} {ov : Value}
/-- Another box has been written. -/
theorem AlS.other (h : AlS w bz bm pc ps bk A1 c1 l1 A2 c2 l2 k s ov W) {g : Nat} {v : Value} (hx : W.heap[g]? = some (.cells #[v] 3 (0, 0))) (h1 : g ≠ bk) (h2 : g ≠ ps) (h3 : w.heap.size ≤ g) (u : Value) : AlS w bz bm pc ps bk A1 c1 l1 A2 c2 l2 k s ov (W.setCell ⟨g, 0, none⟩ u) := by
  have f : ∀ q, q ≠ g → (W.setCell ⟨g, 0, none⟩ u).heap[q]? = W.heap[q]? := fun q hq => Below.heap_setCell W ⟨g, 0, none⟩ _ q hq
  exact ⟨(f bz (blk_ne h.hz hx (by decide))).trans h.hz, (f bm (blk_ne h.hm hx (by decide))).trans h.hm, (f bk h1.symm).trans h.hk,
    ⟨(f pc (blk_ne h.hC.hc hx (by decide))).trans h.hC.hc, (f ps h2.symm).trans h.hC.hs, Kd.S_set h.hC.ho hx (by decide) 0 _⟩, h.hb.setCell (p := ⟨g, 0, none⟩) h3 _, h.zn, h.mn, h.kn, h.pn, h.sn, h.ks, h.len⟩
theorem AlS.cut (h : AlS w bz bm pc ps bk A1 c1 l1 A2 c2 l2 k s ov W) (ok : OkAl m l1 l2) (hl : s.out.length ≤ 100000) (fa : FuncId) (fn : Func) (hf : Try.prog.funcs[fa]? = some fn) (hname : (fn.name == "runtime.NumGoroutine") = false) (hbo : fn.body.isSome = true) (caps : Array Value)
    (st : Bool) (b' : Nat) (a' : List Int) (ha : a'.length = l2.length)
    (hat : ∀ W', AlS w bz bm pc ps bk A1 c1 l1 A2 c2 l2 k s ov W → Below w.heap.size w W' → (∀ q, q < W.heap.size → q ≠ pc → q ≠ ps → W'.heap[q]? = W.heap[q]?) → ∀ i : Nat, i < l2.length → Calls Try.prog fa (#[.int .i64 (i : Int)] ++ caps) W' fun e w' => e = .returned (.int .i64 (a'.getD i 0)) ∧ Drawn0 W' w') :
    Calls Try.prog 42 #[.pointer (some ⟨pc, 0, none⟩), .bool st, .int .i64 (b' : Int), .func (.func fa) #[] caps] W fun e w' => (∃ u, e = .returned u) ∧ ∃ ov', AlS w bz bm pc ps bk A1 c1 l1 A2 c2 l2 k (toG s st b' a') ov' w' ∧
      (∀ (q ty : Nat) cs, W.heap[q]? = some (.cells cs ty (0, 0)) → ty ≠ 76 → 39 ≠ ty → q ≠ ps → w'.heap[q]? = some (.cells cs ty (0, 0))) := by
  have hlen := h.len
  have hhi := ok.hi
  refine (to42_c fa fn hf hname hbo caps W w.heap.size pc ps h.ok s.base b' s.at_ a' ov s.out st (hlen.trans ha.symm) (by omega) hl h.hC (fun W' h1 h2 i hi => hat W' h (h.hb.trans h1) h2 i (by omega))).mono ?_
  rintro e w' ⟨h1, ov', h2, h3, h4⟩
  refine ⟨h1, ov', h.to ha h2 h3 h4, fun q ty cs hx n1 n2 n3 => (h4 q (blk_lt hx) (blk_ne hx h.hC.hc n1) n3 (Kd.S_ne h.hC.ho hx n2)).trans hx⟩
theorem AlS.to43 (h : AlS w bz bm pc ps bk A1 c1 l1 A2 c2 l2 k s ov W) (ok : OkAl m l1 l2) (hR : Kd.C (Kd.slice 3 (Kd.int .i64)) w A2 l2.length l2) (hk : k < m) (hl : s.out.length ≤ 100000) :
    Calls Try.prog 42 #[.pointer (some ⟨pc, 0, none⟩), .bool false, .int .i64 (k : Int), .func (.func 43) #[] #[.pointer (some ⟨bm, 0, none⟩), .pointer (some ⟨bk, 0, none⟩)]] W fun e w' => (∃ u, e = .returned u) ∧ ∃ ov', AlS w bz bm pc ps bk A1 c1 l1 A2 c2 l2 k (toG s false k (atG l2 k 0)) ov' w' ∧
      (∀ (q ty : Nat) cs, W.heap[q]? = some (.cells cs ty (0, 0)) → ty ≠ 76 → 39 ≠ ty → q ≠ ps → w'.heap[q]? = some (.cells cs ty (0, 0))) :=
  h.cut ok hl 43 _ Try.func43 (by kernel_rfl) rfl _ false k _ (atG_len _ _ _) fun W' h hb hq i hi => by
    rw [atG_at _ _ _ _ hi, Int.add_zero]
    exact at43_c W' bm bk A2 c2 l2 i k ((blk_cell ((hq bm (blk_lt h.hm) (blk_ne h.hm h.hC.hc (by decide)) (blk_ne h.hm h.hC.hs (by decide))).trans h.hm) 0).trans rfl) ((blk_cell ((hq bk (blk_lt h.hk) (blk_ne h.hk h.hC.hc (by decide)) h.ks).trans h.hk) 0).trans rfl) (Kd.C_below hR hb) hi (by have := ok.row i hi; omega)
theorem AlS.to44 (h : AlS w bz bm pc ps bk A1 c1 l1 A2 c2 l2 k s ov W) (ok : OkAl m l1 l2) (hR : Kd.C (Kd.slice 3 (Kd.int .i64)) w A2 l2.length l2) (he1 : 1 ≤ e) (he : e ≤ m) (hl : s.out.length ≤ 100000) (hx : W.heap[be]? = some (.cells #[.int .i64 (e : Int)] 3 (0, 0))) (hs : be ≠ ps) :
    Calls Try.prog 42 #[.pointer (some ⟨pc, 0, none⟩), .bool true, .int .i64 (e : Int), .func (.func 44) #[] #[.pointer (some ⟨bm, 0, none⟩), .pointer (some ⟨be, 0, none⟩)]] W fun e' w' => (∃ u, e' = .returned u) ∧ ∃ ov', AlS w bz bm pc ps bk A1 c1 l1 A2 c2 l2 k (toG s true e (atG l2 (e - 1) 1)) ov' w' ∧
      (∀ (q ty : Nat) cs, W.heap[q]? = some (.cells cs ty (0, 0)) → ty ≠ 76 → 39 ≠ ty → q ≠ ps → w'.heap[q]? = some (.cells cs ty (0, 0))) :=
  h.cut ok hl 44 _ Try.func44 (by kernel_rfl) rfl _ true e _ (atG_len _ _ _) fun W' h hb hq i hi => by
    rw [atG_at _ _ _ _ hi]
    have hv := ok.val i (e - 1)
    have hw : wrap64 ((l2.getD i []).getD (e - 1) 0 + 1) = (l2.getD i []).getD (e - 1) 0 + 1 := by unfold wrap64; omega
    rw [← hw]
    have hm6 := ok.m6
    exact at44_c W' bm be A2 c2 l2 i (e - 1) ((blk_cell ((hq bm (blk_lt h.hm) (blk_ne h.hm h.hC.hc (by decide)) (blk_ne h.hm h.hC.hs (by decide))).trans h.hm) 0).trans rfl) (by rw [show e - 1 + 1 = e by omega]; exact (blk_cell ((hq be (blk_lt hx) (blk_ne hx h.hC.hc (by decide)) hs).trans hx) 0).trans rfl) (Kd.C_below hR hb) hi (by have := ok.row i hi; omega) (by omega)
theorem AlS.to45 (h : AlS w bz bm pc ps bk A1 c1 l1 A2 c2 l2 k s ov W) (ok : OkAl m l1 l2) (hR : Kd.C (Kd.int .i64) w A1 l1.length l1) (hl : s.out.length ≤ 100000) :
    Calls Try.prog 42 #[.pointer (some ⟨pc, 0, none⟩), .bool false, .int .i64 (m : Int), .func (.func 45) #[] #[.pointer (some ⟨bz, 0, none⟩)]] W fun e' w' => (∃ u, e' = .returned u) ∧ ∃ ov', AlS w bz bm pc ps bk A1 c1 l1 A2 c2 l2 k (toG s false m l1) ov' w' ∧
      (∀ (q ty : Nat) cs, W.heap[q]? = some (.cells cs ty (0, 0)) → ty ≠ 76 → 39 ≠ ty → q ≠ ps → w'.heap[q]? = some (.cells cs ty (0, 0))) :=
  h.cut ok hl 45 _ Try.func45 (by kernel_rfl) rfl _ false m _ ok.len fun W' h hb hq i hi => by
    have hlen := ok.len
    exact at45_c W' bz A1 c1 l1 i (by rw [hlen]; exact (blk_cell ((hq bz (blk_lt h.hz) (blk_ne h.hz h.hC.hc (by decide)) (blk_ne h.hz h.hC.hs (by decide))).trans h.hz) 0).trans rfl) (Kd.C_below hR hb) (by omega)
end
theorem loopA_true {M : List (List Int)} {m d k : Nat} {s : CutSt} (hk : k < m) (hd : m < k + d) (hs : stabB M k = true) : ∃ d', d = d' + 1 ∧ loopA M m d k s = loopA M m d' (endG M m k) (toG (toG s false k (atG M k 0)) true (endG M m k) (atG M (endG M m k - 1) 1)) := by
  obtain ⟨d', rfl⟩ : ∃ d', d = d' + 1 := ⟨d - 1, by omega⟩
  exact ⟨d', rfl, by rw [loopA, if_pos hk, if_pos hs]⟩
theorem loopA_false {M : List (List Int)} {m d k : Nat} {s : CutSt} (hk : k < m) (hd : m < k + d) (hs : stabB M k = false) : ∃ d', d = d' + 1 ∧ loopA M m d k s = loopA M m d' (k + 1) s := by
  obtain ⟨d', rfl⟩ : ∃ d', d = d' + 1 := ⟨d - 1, by omega⟩
  exact ⟨d', rfl, by rw [loopA, if_pos hk, if_neg (by rw [hs]; decide)]⟩
theorem loopA_end {M : List (List Int)} {m d : Nat} {s : CutSt} (hd : m < m + d) : loopA M m d m s = s := by
  obtain ⟨d', rfl⟩ : ∃ d', d = d' + 1 := ⟨d - 1, by omega⟩
  rw [loopA, if_neg (by omega)]

set_option maxHeartbeats 8000000 in
set_option maxRecDepth 100000 in
theorem align_Align.calls (k : Nat) (a0 : Int) (A1 : Option Addr) (c1 : Nat) (l1 : List Int) (A2 : Option Addr) (c2 : Nat) (l2 : List (List Int)) (r1 : List S39) (r2 : Int) (w : World) (hr1 : Kd.C (Kd.int .i64) w A1 l1.length l1) (hc1 : l1.length ≤ c1) (hr2 : Kd.C (Kd.slice 3 (Kd.int .i64)) w A2 l2.length l2) (hc2 : l2.length ≤ c2) (h : align_Align.f k a0 l1 l2 = some (r1, r2)) :
    Calls Try.prog 31 #[.int .i64 a0, .slice A1 l1.length c1, .slice A2 l2.length c2] w fun e w' => ∃ v0_ : Value, e = .returned (.tuple #[v0_, .int .i64 r2]) ∧ Kd.S k39 39 w' w.heap.size (fun _ => True) v0_ r1 ∧ Below w.heap.size w w' := by
  have HR1 := Aside0.mk hr1
  have HR2 := Aside0.mk hr2
  have HC1 := Aside0.mk hc1
  have HC2 := Aside0.mk hc2
  have hu76 := Try.underlying76
  unfold align_Align.f at h
  obtain ⟨W2, hW2⟩ : ∃ W2, (w.alloc (.cells #[.slice A1 l1.length c1] 26)).alloc (.cells #[.slice A2 l2.length c2] 27) = W2 := ⟨_, rfl⟩
  have hz0 : W2.heap[w.heap.size]? = some (.cells #[.slice A1 l1.length c1] 26 (0, 0)) := by rw [← hW2]; exact blk_later (blk_new w _) (below_alloc (Below.refl _ _) _)
  have hm0 : W2.heap[w.heap.size + 1]? = some (.cells #[.slice A2 l2.length c2] 27 (0, 0)) := by
    rw [← hW2]
    have := blk_new (w.alloc (.cells #[.slice A1 l1.length c1] 26)) (.cells #[.slice A2 l2.length c2] 27)
    rwa [World.size_alloc] at this
  have hB0 : Below w.heap.size w W2 := by rw [← hW2]; exact below_alloc (below_alloc (Below.refl _ _) _) _
  have hzc : W2.cell? ⟨w.heap.size, 0, none⟩ = some (.slice A1 l1.length c1) := (blk_cell hz0 0).trans rfl
  have hmc : W2.cell? ⟨w.heap.size + 1, 0, none⟩ = some (.slice A2 l2.length c2) := (blk_cell hm0 0).trans rfl
  have HZ0 := Aside0.mk hz0
  have HM0 := Aside0.mk hm0
  have HB0 := Aside0.mk hB0
  clear hr1 hr2 hc1 hc2 hz0 hm0 hB0
  by_cases hnil : l2 = []
  · rw [if_pos hnil] at h
    subst hnil
    obtain ⟨rfl, rfl⟩ := Prod.mk.inj (Option.some.inj h)
    clear h
    go_enter Try.func31, Try.ntmps31
    go_wp2
    refine bodyPost_ret (results_tmp2 rfl _ _ _) rfl ?_
    exact ⟨_, rfl, Kd.S_nil _ _ _ _ _, below_alloc (below_alloc (Below.refl _ _) _) _⟩
  · rw [if_neg hnil] at h
    by_cases hok : okAl a0 l1 l2 = true
    case neg => rw [if_neg hok] at h; exact absurd h (by simp)
    rw [if_pos hok] at h
    obtain ⟨rfl, rfl⟩ := Prod.mk.inj (Option.some.inj h)
    obtain ⟨he, okk⟩ := okAl_of hok
    generalize a0.toNat = m at he okk ⊢
    subst he
    have HOK := Aside0.mk okk
    have hlo := okk.lo
    have hhi := okk.hi
    have hlen := okk.len
    have HZ1 := Aside0.mk (hlen ▸ HZ0.out)
    clear h hok okk hnil HZ0
    have HZ0 : Aside0 (W2.heap[w.heap.size]? = some (.cells #[.slice A1 l2.length c1] 26 (0, 0))) := HZ1
    clear HZ1
    rw [hlen] at hW2 hzc
    rw [hlen]
    go_enter Try.func31, Try.ntmps31
    go_wp2
    try rw [hW2]
    clear hW2 hzc hmc
    go_loopg [31] l2.length (fun kq v31 wr => ∃ i : Nat, v31 = .int .i64 (i : Int) ∧ Aside0 (i ≤ l2.length ∧ kq = l2.length - i) ∧ Aside0 (Below W2.heap.size W2 wr))
    case atStart => exact ⟨0, rfl, ⟨Nat.zero_le _, rfl⟩, ⟨Below.refl _ _⟩⟩
    case round =>
      obtain ⟨i, rfl, HI, HB⟩ := hrel
      have hz1 := blk_later HZ0.out HB.out
      have hzc : wr.cell? ⟨w.heap.size, 0, none⟩ = some (.slice A1 l2.length c1) := (blk_cell hz1 0).trans rfl
      have HBW := Aside0.mk (below_step HB0.out HB.out)
      by_cases hlt : (i : Int) < (l2.length : Int)
      · have hi : i < l2.length := by omega
        have hi1 : i < l1.length := by omega
        obtain ⟨ad, A3, c3, rfl, hx, hl3, hC3⟩ := C_row (Kd.C_below HR2.out HBW.out) i _ (getD_at l2 [] i hi)
        obtain ⟨ad1, rfl, hy⟩ := C_num (Kd.C_below HR1.out HBW.out) i _ (getD_at l1 0 i hi1)
        have HMAY := Aside0.mk (HOK.out.may i hi)
        have HC3 := Aside0.mk hC3
        have HL3 := Aside0.mk hl3
        clear hC3 hl3 hi1
        generalize l2.getD i [] = l at hx HMAY HC3 HL3
        generalize l1.getD i 0 = x at hy HMAY
        go_wp2_with (first | ((with_reducible refine gate_callee (f := 39) rfl ?_); refine goesL_ (some 42) rfl rfl Try.func39 (by kernel_rfl) rfl #[.slice A3 l.length c3, .int .i64 (m : Int), .int .i64 x] rfl (by simp only [List.map_toArray, List.map_cons, List.map_nil]; rfl) ?_; (with_reducible refine (align_may.calls 3000 _ _ l (m : Int) x true _ HC3.out HL3.out HMAY.out).mono ?_); rintro e w3 ⟨rfl, hb3⟩; refine ⟨_, rfl, ?_⟩; have HB3 := Aside0.mk (below_step HB.out hb3); clear hb3))
        go_roundg (l2.length - (i + 1))
        case measure => have := HI.out; omega
        case rel => exact ⟨i + 1, by simp, ⟨by omega, rfl⟩, HB3⟩
      · have hmk := print_make (P := Try.prog) 26 3 .i64 8 Try.underlying26 info3 (by decide) l2.length (by omega)
        go_wp2
        have HA0 := Aside0.mk (AlS.start (w := w) (l1 := l1) (c2 := c2) (A2 := A2) hz1 (blk_later HM0.out HB.out) HBW.out (Nat.le_refl _) (by omega))
        generalize (((wr.alloc (.cells (madeCells #[.int .i64 0] l2.length) 3)).alloc (.cells #[.int .i64 0, .slice (some ⟨wr.heap.size, 0, none⟩) l2.length l2.length, .slice none 0 0] 76)).alloc (.cells #[.int .i64 0] 3)) = W5 at HA0 ⊢
        generalize wr.heap.size + 1 + 1 = bk0 at HA0 ⊢
        generalize wr.heap.size + 1 = pc at HA0 ⊢
        generalize wr.heap.size = ps at HA0 ⊢
        generalize w.heap.size + 1 = bm at HA0 HM0 ⊢
        clear hz1 hzc hmk HB HBW HI HM0
        clear hlt
        go_loopg [12] m (fun kq v12 wr => ∃ (k bk d : Nat) (s : CutSt) (ov : Value), v12 = .pointer (some ⟨bk, 0, none⟩) ∧ Aside0 (k ≤ m ∧ kq = m - k) ∧ Aside0 (m < k + d ∧ loopA l2 m d k s = loopA l2 m (m + 1) 0 ⟨0, List.replicate l2.length 0, []⟩) ∧ Aside0 (s.out.length ≤ 2 * k) ∧ Aside0 (AlS w w.heap.size bm pc ps bk A1 c1 l1 A2 c2 l2 k s ov wr))
        case atStart => exact ⟨0, bk0, m + 1, _, _, rfl, ⟨Nat.zero_le _, rfl⟩, ⟨by omega, rfl⟩, ⟨Nat.zero_le _⟩, HA0⟩
        case round =>
          clear HA0
          obtain ⟨k, bk, d, s, ov, rfl, HK, HD, HL, HA⟩ := hrel
          have hck : wr.cell? ⟨bk, 0, none⟩ = some (.int .i64 (k : Int)) := (blk_cell HA.out.hk 0).trans rfl
          have hcm : wr.cell? ⟨bm, 0, none⟩ = some (.slice A2 l2.length c2) := (blk_cell HA.out.hm 0).trans rfl
          by_cases hlt : (k : Int) < (m : Int)
          · have hkm : k < m := by omega
            have HKM := Aside0.mk hkm
            have HST := Aside0.mk (stable40_c wr bm A2 c2 l2 k hcm (Kd.C_below HR2.out HA.out.hb) (fun i hi => by have := HOK.out.row i hi; omega) (by omega))
            clear hkm
            by_cases hst : stabB l2 k = true
            · rw [hst] at HST
              obtain ⟨d', hd', hR'⟩ := loopA_true (s := s) HKM.out HD.out.1 hst
              rw [HD.out.2] at hR'
              have HR' := Aside0.mk hR'
              have HD' := Aside0.mk hd'
              have hle := runF_le l2 (m - (k + 1)) (k + 1)
              obtain ⟨e, he⟩ : ∃ e, runF l2 (m - (k + 1)) (k + 1) = e := ⟨_, rfl⟩
              rw [he] at hle
              have HE := Aside0.mk he
              have HEG : Aside0 (endG l2 m k = e) := ⟨he⟩
              have HEB : Aside0 (1 ≤ e ∧ k + 1 ≤ e ∧ e ≤ m) := ⟨by have := HKM.out; omega⟩
              obtain ⟨e1, he1⟩ : ∃ e1, e1 = e - 1 := ⟨_, rfl⟩
              have HE1 : Aside0 (wrap64 ((e : Int) - 1) = (e1 : Int)) := ⟨by have := HEB.out; have := HOK.out.m6; unfold wrap64; omega⟩
              have HE2 : Aside0 (wrap64 ((e1 : Int) + 1) = (e : Int)) := ⟨by have := HEB.out; have := HOK.out.m6; unfold wrap64; omega⟩
              have hm6 := HOK.out.m6
              clear hR' hd' hle he he1
              go_wp2_with (first
                | ((with_reducible refine gate_dst (N := 58) rfl ?_); refine goesTL_ (some 58) rfl rfl #[.pointer (some ⟨bm, 0, none⟩)] #[.int .i64 (k : Int), .pointer (some ⟨bm, 0, none⟩)] Try.func40 (by kernel_rfl) rfl #[.int .i64 (k : Int)] rfl rfl (by rfl) (by simp only [List.map_toArray, List.map_cons, List.map_nil]; rfl) ?_; (with_reducible refine HST.out.mono ?_); rintro e w3 ⟨rfl, ⟨nd, rfl⟩⟩; refine ⟨_, rfl, ?_⟩; have HA3 := Aside0.mk (HA.out.below (pw_below_drewN (Below.refl _ _) nd)); obtain ⟨W3, hW3⟩ : ∃ W3, wr.drewN nd = W3 := ⟨_, rfl⟩; rw [hW3] at HA3 ⊢; clear hW3 hck hcm HA HST; have hck : W3.cell? ⟨bk, 0, none⟩ = some (.int .i64 (k : Int)) := (blk_cell HA3.out.hk 0).trans rfl; have hcm : W3.cell? ⟨bm, 0, none⟩ = some (.slice A2 l2.length c2) := (blk_cell HA3.out.hm 0).trans rfl)
                | ((with_reducible refine gate_dst (N := 63) rfl ?_); refine goesL_ (some 63) rfl rfl Try.func41 (by kernel_rfl) rfl #[.int .i64 (m : Int), .slice A2 l2.length c2, .int .i64 (k : Int)] rfl (by simp only [List.map_toArray, List.map_cons, List.map_nil]; rfl) ?_; (with_reducible refine (run41_c W3 A2 c2 l2 m k (Kd.C_below HR2.out HA3.out.hb) HOK.out.row (fun i j => by have := HOK.out.val i j; omega) HKM.out (by omega) (by omega)).mono ?_); rintro en w4 ⟨rfl, ⟨nd2, rfl⟩⟩; refine ⟨_, rfl, ?_⟩; rw [HE.out]; have HAa := Aside0.mk (HA3.out.below (pw_below_drewN (Below.refl _ _) nd2)); obtain ⟨Wa, hWa⟩ : ∃ Wa, W3.drewN nd2 = Wa := ⟨_, rfl⟩; rw [hWa] at HAa ⊢; clear hWa hck hcm HA3)
                | ((with_reducible refine gate_dst (N := 13) rfl ?_); refine box_event ?hg (N := 13) ?hd (cs := #[.int .i64 0]) (t := 3) ?hr ?_; (case hd => rfl); (case hg => rfl); (case hr => first | (go_simp; done) | (go_simp; rfl)); intro gb hgb Wb hxb hbb; have HAb := Aside0.mk (HAa.out.below hbb); have HXb := Aside0.mk hxb; have HNb : Aside0 (w.heap.size ≤ gb ∧ gb ≠ ps ∧ gb ≠ bk) := ⟨by have h1 := HAa.out.hb.size; have h2 := blk_lt HAa.out.hC.hs; have h3 := blk_lt HAa.out.hk; omega⟩; have hcb : Wb.cell? ⟨gb, 0, none⟩ = some (.int .i64 0) := (blk_cell hxb 0).trans rfl; have hfb := blk_frozen hxb 0; clear hgb hxb hbb HAa)
                | ((with_reducible refine gate_store (t := 3) (p := 13) rfl ?_); refine store_event (t := 3) (p := 13) (v := ?vo_) (w1 := Wb.setCell ⟨gb, 0, none⟩ (.int .i64 (e : Int))) ?hg ?ho ?hn ?hr ?_; (case ho => rfl); (case hg => rfl); (case hn => rfl); (case hr => first | (go_simp; done) | (go_simp; rfl)); intro Wc hWc; have HAc := Aside0.mk (HAb.out.other HXb.out HNb.out.2.2 HNb.out.2.1 HNb.out.1 (.int .i64 (e : Int))); have HXc := Aside0.mk (blk_put HXb.out 0 (.int .i64 (e : Int)) rfl); rw [← hWc] at HAc HXc; clear hWc hcb hfb HAb HXb; have hck : Wc.cell? ⟨bk, 0, none⟩ = some (.int .i64 (k : Int)) := (blk_cell HAc.out.hk 0).trans rfl)
                | ((with_reducible refine gate_dst (N := 67) rfl ?_); refine goesL_ (some 67) rfl rfl Try.func42 (by kernel_rfl) rfl #[.pointer (some ⟨pc, 0, none⟩), .bool false, .int .i64 (k : Int), .func (.func 43) #[] #[.pointer (some ⟨bm, 0, none⟩), .pointer (some ⟨bk, 0, none⟩)]] rfl (by simp only [List.map_toArray, List.map_cons, List.map_nil]; rfl) ?_; (with_reducible refine (HAc.out.to43 HOK.out HR2.out HKM.out (by have := HL.out; omega)).mono ?_); rintro e7 Wd ⟨⟨u7, rfl⟩, ov7, hA7, hp7⟩; refine ⟨_, rfl, ?_⟩; have HAd := Aside0.mk hA7; have HXd := Aside0.mk (hp7 _ _ _ HXc.out (by decide) (by decide) HNb.out.2.1); clear hA7 hp7 HAc HXc hck; have hce : Wd.cell? ⟨gb, 0, none⟩ = some (.int .i64 (e : Int)) := (blk_cell HXd.out 0).trans rfl)
                | ((with_reducible refine gate_dst (N := 71) rfl ?_); refine goesL_ (some 71) rfl rfl Try.func42 (by kernel_rfl) rfl #[.pointer (some ⟨pc, 0, none⟩), .bool true, .int .i64 (e : Int), .func (.func 44) #[] #[.pointer (some ⟨bm, 0, none⟩), .pointer (some ⟨gb, 0, none⟩)]] rfl (by simp only [List.map_toArray, List.map_cons, List.map_nil]; rfl) ?_; (with_reducible refine (HAd.out.to44 HOK.out HR2.out HEB.out.1 HEB.out.2.2 (by have h1 := HL.out; have h2 := toG_out_len s false k (atG l2 k 0); omega) HXd.out HNb.out.2.1).mono ?_); rintro e8 We ⟨⟨u8, rfl⟩, ov8, hA8, hp8⟩; refine ⟨_, rfl, ?_⟩; have HAe := Aside0.mk hA8; have HXe := Aside0.mk (hp8 _ _ _ HXd.out (by decide) (by decide) HNb.out.2.1); clear hA8 hp8 HAd HXd hce; have hce : We.cell? ⟨gb, 0, none⟩ = some (.int .i64 (e : Int)) := (blk_cell HXe.out 0).trans rfl; have hcke : We.cell? ⟨bk, 0, none⟩ = some (.int .i64 (k : Int)) := (blk_cell HAe.out.hk 0).trans rfl; have hfke := blk_frozen HAe.out.hk 0)
                | ((with_reducible refine gate_store (t := 3) (p := 12) (v := .tmp 73) rfl ?_); refine store_event (t := 3) (p := 12) (v := .tmp 73) (w1 := We.setCell ⟨bk, 0, none⟩ (.int .i64 (wrap64 ((e : Int) - 1)))) ?hg ?ho ?hn ?hr ?_; (case ho => rfl); (case hg => rfl); (case hn => rfl); (case hr => first | (go_simp; done) | (go_simp; rfl)); intro Wf hWf; have HAf := Aside0.mk (HAe.out.set e1); rw [← HE1.out, ← hWf] at HAf; clear hWf hcke hfke hce HAe; have hckf : Wf.cell? ⟨bk, 0, none⟩ = some (.int .i64 (e1 : Int)) := (blk_cell HAf.out.hk 0).trans rfl)
                | ((with_reducible refine gate_dst (N := 12) rfl ?_); refine box_event ?hg (N := 12) ?hd (cs := #[.int .i64 0]) (t := 3) ?hr ?_; (case hd => rfl); (case hg => rfl); (case hr => first | (go_simp; done) | (go_simp; rfl)); intro g4 hg4 W4 hx4 hb4; have HA4 := Aside0.mk (HAf.out.below hb4); have HX4 := Aside0.mk hx4; have HN4 : Aside0 (w.heap.size ≤ g4 ∧ g4 ≠ ps) := ⟨by have h1 := HAf.out.hb.size; have h2 := blk_lt HAf.out.hC.hs; omega⟩; have hc4 : W4.cell? ⟨g4, 0, none⟩ = some (.int .i64 0) := (blk_cell hx4 0).trans rfl; have hf4 := blk_frozen hx4 0; clear hg4 hx4 hb4)
                | ((with_reducible refine gate_store (t := 3) (p := 12) (v := .tmp 74) rfl ?_); refine store_event (t := 3) (p := 12) (v := .tmp 74) (w1 := W4.setCell ⟨g4, 0, none⟩ (.int .i64 (e1 : Int))) ?hg ?ho ?hn ?hr ?_; (case ho => rfl); (case hg => rfl); (case hn => rfl); (case hr => first | (go_simp; done) | (go_simp; rfl)); intro W5 hW5; have HA5 : Aside0 (AlS w w.heap.size bm pc ps g4 A1 c1 l1 A2 c2 l2 (e1) _ _ W5) := ⟨by rw [hW5]; exact (HA4.out.rebox (k' := 0) HX4.out HN4.out.1 HN4.out.2).set (e1)⟩; clear hW5 hc4 hf4 HX4; have hc5 : W5.cell? ⟨g4, 0, none⟩ = some (.int .i64 (e1 : Int)) := (blk_cell HA5.out.hk 0).trans rfl; have hf5 := blk_frozen HA5.out.hk 0)
                | ((with_reducible refine gate_store (t := 3) (p := 12) (v := .tmp 55) rfl ?_); refine store_event (t := 3) (p := 12) (v := .tmp 55) (w1 := W5.setCell ⟨g4, 0, none⟩ (.int .i64 (wrap64 ((e1 : Int) + 1)))) ?hg ?ho ?hn ?hr ?_; (case ho => rfl); (case hg => rfl); (case hn => rfl); (case hr => first | (go_simp; done) | (go_simp; rfl)); intro W6 hW6; have HA6 : Aside0 (AlS w w.heap.size bm pc ps g4 A1 c1 l1 A2 c2 l2 (e) _ _ W6) := ⟨by rw [hW6, HE2.out]; exact HA5.out.set (e)⟩; clear hW6 hc5 hf5))
              have hEG := HEG.out
              go_roundg (m - e)
              case measure => have := HK.out; have := HEB.out; omega
              case rel => exact ⟨e, g4, d', _, ov8, rfl, ⟨HEB.out.2.2, rfl⟩, ⟨by have h1 := HD.out.1; have h2 := HD'.out; have h3 := HEB.out; omega, by rw [← hEG]; exact HR'.out.symm⟩, ⟨by have h1 := HL.out; have h2 := toG_out_len s false k (atG l2 k 0); have h3 := toG_out_len (toG s false k (atG l2 k 0)) true e (atG l2 (e - 1) 1); have h4 := HEB.out; rw [hEG]; omega⟩, ⟨by rw [hEG]; exact HA6.out⟩⟩
            · have hsf : stabB l2 k = false := Bool.eq_false_iff.2 hst
              rw [hsf] at HST
              obtain ⟨d', hd', hR'⟩ := loopA_false (s := s) HKM.out HD.out.1 hsf
              rw [HD.out.2] at hR'
              have HR' := Aside0.mk hR'
              have HD' := Aside0.mk hd'
              have hm6 := HOK.out.m6
              clear hR' hd'
              go_wp2_with (first
                | ((with_reducible refine gate_dst (N := 58) rfl ?_); refine goesTL_ (some 58) rfl rfl #[.pointer (some ⟨bm, 0, none⟩)] #[.int .i64 (k : Int), .pointer (some ⟨bm, 0, none⟩)] Try.func40 (by kernel_rfl) rfl #[.int .i64 (k : Int)] rfl rfl (by rfl) (by simp only [List.map_toArray, List.map_cons, List.map_nil]; rfl) ?_; (with_reducible refine HST.out.mono ?_); rintro e w3 ⟨rfl, ⟨nd, rfl⟩⟩; refine ⟨_, rfl, ?_⟩; have HA3 := Aside0.mk (HA.out.below (pw_below_drewN (Below.refl _ _) nd)); obtain ⟨W3, hW3⟩ : ∃ W3, wr.drewN nd = W3 := ⟨_, rfl⟩; rw [hW3] at HA3 ⊢; clear hW3 hck hcm HA HST; have hck : W3.cell? ⟨bk, 0, none⟩ = some (.int .i64 (k : Int)) := (blk_cell HA3.out.hk 0).trans rfl; have hcm : W3.cell? ⟨bm, 0, none⟩ = some (.slice A2 l2.length c2) := (blk_cell HA3.out.hm 0).trans rfl)
                | ((with_reducible refine gate_dst (N := 12) rfl ?_); refine box_event ?hg (N := 12) ?hd (cs := #[.int .i64 0]) (t := 3) ?hr ?_; (case hd => rfl); (case hg => rfl); (case hr => first | (go_simp; done) | (go_simp; rfl)); intro g4 hg4 W4 hx4 hb4; have HA4 := Aside0.mk (HA3.out.below hb4); have HX4 := Aside0.mk hx4; have HN4 : Aside0 (w.heap.size ≤ g4 ∧ g4 ≠ ps) := ⟨by have h1 := HA3.out.hb.size; have h2 := blk_lt HA3.out.hC.hs; omega⟩; have hc4 : W4.cell? ⟨g4, 0, none⟩ = some (.int .i64 0) := (blk_cell hx4 0).trans rfl; have hf4 := blk_frozen hx4 0; clear hg4 hx4 hb4)
                | ((with_reducible refine gate_store (t := 3) (p := 12) (v := .tmp 74) rfl ?_); refine store_event (t := 3) (p := 12) (v := .tmp 74) (w1 := W4.setCell ⟨g4, 0, none⟩ (.int .i64 (k : Int))) ?hg ?ho ?hn ?hr ?_; (case ho => rfl); (case hg => rfl); (case hn => rfl); (case hr => first | (go_simp; done) | (go_simp; rfl)); intro W5 hW5; have HA5 : Aside0 (AlS w w.heap.size bm pc ps g4 A1 c1 l1 A2 c2 l2 (k) _ _ W5) := ⟨by rw [hW5]; exact (HA4.out.rebox (k' := 0) HX4.out HN4.out.1 HN4.out.2).set (k)⟩; clear hW5 hc4 hf4 HX4; have hc5 : W5.cell? ⟨g4, 0, none⟩ = some (.int .i64 (k : Int)) := (blk_cell HA5.out.hk 0).trans rfl; have hf5 := blk_frozen HA5.out.hk 0))
              go_roundg (m - (k + 1))
              case measure => have := HK.out; have := HKM.out; omega
              case rel => exact ⟨k + 1, g4, d', s, ov, rfl, ⟨HKM.out, rfl⟩, ⟨by have h1 := HD.out.1; have h2 := HD'.out; omega, HR'.out.symm⟩, ⟨by have := HL.out; omega⟩, ⟨by have h := HA5.out.set (k + 1); rw [show (((k + 1 : Nat)) : Int) = (k : Int) + 1 from rfl] at h; exact h⟩⟩
          · have hkm : k = m := by have := HK.out; omega
            subst hkm
            have hR := HD.out.2
            rw [loopA_end HD.out.1] at hR
            have HR := Aside0.mk hR
            have hm6 := HOK.out.m6
            clear hR
            go_wp2_with (first | ((with_reducible refine gate_dst (N := 78) rfl ?_); refine goesL_ (some 78) rfl rfl Try.func42 (by kernel_rfl) rfl #[.pointer (some ⟨pc, 0, none⟩), .bool false, .int .i64 (k : Int), .func (.func 45) #[] #[.pointer (some ⟨w.heap.size, 0, none⟩)]] rfl (by simp only [List.map_toArray, List.map_cons, List.map_nil]; rfl) ?_; (with_reducible refine (HA.out.to45 HOK.out HR1.out (by have := HL.out; omega)).mono ?_); rintro e7 Wd ⟨⟨u7, rfl⟩, ov7, hA7, hp7⟩; refine ⟨_, rfl, ?_⟩; have HAd := Aside0.mk hA7; clear hA7 hp7 HA hck hcm; obtain ⟨A7, c7, rfl⟩ := Kd.S_slice HAd.out.hC.ho; have hcd : Wd.cell? ⟨pc, 2, none⟩ = some (.slice A7 (toG s false k l1).out.length c7) := (blk_cell HAd.out.hC.hc 2).trans rfl))
            refine bodyPost_ret (results_tmp2 rfl _ _ _) rfl ?_
            refine ⟨_, rfl, ?_, HAd.out.hb⟩
            unfold alignG
            rw [HOK.out.len, ← HR.out]
            exact HAd.out.hC.ho
end Go.Proofs.Ytnebadlakmlkkaa.M
namespace Go.Proofs.Ytnebadlakmlkkaa.M
open Go.RowKit Go.Proofs.YtnebadlakmlkkaaW.PrintWords Go.Proofs.YtnebadlakmlkkaaW.PrintLast Go.Proofs.YtnebadlakmlkkaaW.PrintMore
attribute [local go_sem] max2_int min2_int max_two min_two max_three min_three max_four min_four
set_option linter.unusedVariables false
set_option linter.unusedSimpArgs false

attribute [local go_sem high] eqA36
/-! ### sennitlaw05_awake: function 14 -/
def sennitlaw05_awake.f (k : Nat)  : Option (Bool) := (align_Align.f k 3 (([3] : List Int)) (([(([(-1), 0, 1] : List Int))] : List (List Int)))).bind fun bt111 => ((align_Align.f k 3 ([] : List Int) ([] : List (List Int))).bind fun bt115 => (if bt111.2 = 0 then (if bt115.2 = 1 then (if (bt111.1.length : Int) = 3 then (if 0 < (bt111.1.length : Int) then (if ((rd_T39 bt111.1 0).f0 = true) then (none) else (if ((rd_T39 bt111.1 0).f1.f1) = 1 then (if 1 < (bt111.1.length : Int) then (if (rd_T39 bt111.1 1).f0 = true then (if ((rd_T39 bt111.1 1).f1.f1) = 3 then (if 2 < (bt111.1.length : Int) then (if 0 < (((rd_T39 bt111.1 2).f2).length : Int) then (some (((rd_T36 ((rd_T39 bt111.1 2).f2) 0).f0) == 2 && (((rd_T36 ((rd_T39 bt111.1 2).f2) 0).f1) == 3))) else (none)) else (none)) else (none)) else (none)) else (none)) else (none))) else (none)) else (none)) else (none)) else (none)))
theorem sennitlaw05_awake.mono : ∀ k, LeO (sennitlaw05_awake.f k ) (sennitlaw05_awake.f (k + 1) ) := by
  intro  k
  unfold sennitlaw05_awake.f
  repeat' first
      | (with_reducible exact align_Align.mono _ _ _ _)
      | (with_reducible exact LeO.refl _)
      | (with_reducible exact LeO.none _)
      | (with_reducible refine LeO.ite ?_ ?_)
      | (with_reducible refine LeO.bind ?_ (fun _ => ?_))
      | exact align_Align.mono _ _ _ _
      | exact LeO.none _
      | refine LeO.ite ?_ ?_
      | refine LeO.bind ?_ (fun _ => ?_)
set_option maxHeartbeats 8000000 in
set_option maxRecDepth 100000 in
theorem sennitlaw05_awake.calls (k : Nat)  (r : Bool) (w : World) (h : sennitlaw05_awake.f k  = some r) :
    Calls Try.prog 14 #[] w fun e w' => e = .returned (.bool r) ∧ Below w.heap.size w w' := by
  have hu36 := Try.underlying36
  have HB := Aside0.mk (Below.refl w.heap.size w)
  have H : ((align_Align.f k 3 (([3] : List Int)) (([(([(-1), 0, 1] : List Int))] : List (List Int)))).bind fun bt111 => ((align_Align.f k 3 ([] : List Int) ([] : List (List Int))).bind fun bt115 => (if bt111.2 = 0 then (if bt115.2 = 1 then (if (bt111.1.length : Int) = 3 then (if 0 < (bt111.1.length : Int) then (if ((rd_T39 bt111.1 0).f0 = true) then (none) else (if ((rd_T39 bt111.1 0).f1.f1) = 1 then (if 1 < (bt111.1.length : Int) then (if (rd_T39 bt111.1 1).f0 = true then (if ((rd_T39 bt111.1 1).f1.f1) = 3 then (if 2 < (bt111.1.length : Int) then (if 0 < (((rd_T39 bt111.1 2).f2).length : Int) then (some (((rd_T36 ((rd_T39 bt111.1 2).f2) 0).f0) == 2 && (((rd_T36 ((rd_T39 bt111.1 2).f2) 0).f1) == 3))) else (none)) else (none)) else (none)) else (none)) else (none)) else (none))) else (none)) else (none)) else (none)) else (none)))) = some r := h
  clear h
  obtain ⟨y102, hy102⟩ : ∃ y_ : List Int, y_ = (([3] : List Int)) := ⟨_, rfl⟩
  replace H : ((align_Align.f k 3 y102 (([(([(-1), 0, 1] : List Int))] : List (List Int)))).bind fun bt111 => ((align_Align.f k 3 ([] : List Int) ([] : List (List Int))).bind fun bt115 => (if bt111.2 = 0 then (if bt115.2 = 1 then (if (bt111.1.length : Int) = 3 then (if 0 < (bt111.1.length : Int) then (if ((rd_T39 bt111.1 0).f0 = true) then (none) else (if ((rd_T39 bt111.1 0).f1.f1) = 1 then (if 1 < (bt111.1.length : Int) then (if (rd_T39 bt111.1 1).f0 = true then (if ((rd_T39 bt111.1 1).f1.f1) = 3 then (if 2 < (bt111.1.length : Int) then (if 0 < (((rd_T39 bt111.1 2).f2).length : Int) then (some (((rd_T36 ((rd_T39 bt111.1 2).f2) 0).f0) == 2 && (((rd_T36 ((rd_T39 bt111.1 2).f2) 0).f1) == 3))) else (none)) else (none)) else (none)) else (none)) else (none)) else (none))) else (none)) else (none)) else (none)) else (none)))) = some r := by first | (rw [hy102]; with_reducible exact H) | (have H2_ := (Option.bind_some _ _).symm.trans H; rw [hy102]; with_reducible exact H2_) | (have H2_ := (Option.bind_some _ _).symm.trans H; with_reducible exact H2_) | with_reducible exact H | (rw [hy102]; exact H) | exact H
  have Ny102 := Aside0.mk hy102
  clear hy102
  obtain ⟨y105, hy105⟩ : ∃ y_ : List Int, y_ = (([(-1), 0, 1] : List Int)) := ⟨_, rfl⟩
  replace H : ((align_Align.f k 3 y102 (([y105] : List (List Int)))).bind fun bt111 => ((align_Align.f k 3 ([] : List Int) ([] : List (List Int))).bind fun bt115 => (if bt111.2 = 0 then (if bt115.2 = 1 then (if (bt111.1.length : Int) = 3 then (if 0 < (bt111.1.length : Int) then (if ((rd_T39 bt111.1 0).f0 = true) then (none) else (if ((rd_T39 bt111.1 0).f1.f1) = 1 then (if 1 < (bt111.1.length : Int) then (if (rd_T39 bt111.1 1).f0 = true then (if ((rd_T39 bt111.1 1).f1.f1) = 3 then (if 2 < (bt111.1.length : Int) then (if 0 < (((rd_T39 bt111.1 2).f2).length : Int) then (some (((rd_T36 ((rd_T39 bt111.1 2).f2) 0).f0) == 2 && (((rd_T36 ((rd_T39 bt111.1 2).f2) 0).f1) == 3))) else (none)) else (none)) else (none)) else (none)) else (none)) else (none))) else (none)) else (none)) else (none)) else (none)))) = some r := by first | (rw [hy105]; with_reducible exact H) | (have H2_ := (Option.bind_some _ _).symm.trans H; rw [hy105]; with_reducible exact H2_) | (have H2_ := (Option.bind_some _ _).symm.trans H; with_reducible exact H2_) | with_reducible exact H | (rw [hy105]; exact H) | exact H
  have Ny105 := Aside0.mk hy105
  clear hy105
  obtain ⟨y108, hy108⟩ : ∃ y_ : List (List Int), y_ = (([y105] : List (List Int))) := ⟨_, rfl⟩
  replace H : ((align_Align.f k 3 y102 y108).bind fun bt111 => ((align_Align.f k 3 ([] : List Int) ([] : List (List Int))).bind fun bt115 => (if bt111.2 = 0 then (if bt115.2 = 1 then (if (bt111.1.length : Int) = 3 then (if 0 < (bt111.1.length : Int) then (if ((rd_T39 bt111.1 0).f0 = true) then (none) else (if ((rd_T39 bt111.1 0).f1.f1) = 1 then (if 1 < (bt111.1.length : Int) then (if (rd_T39 bt111.1 1).f0 = true then (if ((rd_T39 bt111.1 1).f1.f1) = 3 then (if 2 < (bt111.1.length : Int) then (if 0 < (((rd_T39 bt111.1 2).f2).length : Int) then (some (((rd_T36 ((rd_T39 bt111.1 2).f2) 0).f0) == 2 && (((rd_T36 ((rd_T39 bt111.1 2).f2) 0).f1) == 3))) else (none)) else (none)) else (none)) else (none)) else (none)) else (none))) else (none)) else (none)) else (none)) else (none)))) = some r := by first | (rw [hy108]; with_reducible exact H) | (have H2_ := (Option.bind_some _ _).symm.trans H; rw [hy108]; with_reducible exact H2_) | (have H2_ := (Option.bind_some _ _).symm.trans H; with_reducible exact H2_) | with_reducible exact H | (rw [hy108]; exact H) | exact H
  have Ny108 := Aside0.mk hy108
  clear hy108
  replace H := Option.bind_eq_some_iff.mp H
  obtain ⟨⟨t111, t112⟩, A10, H⟩ := H
  replace H : ((align_Align.f k 3 ([] : List Int) ([] : List (List Int))).bind fun bt115 => (if t112 = 0 then (if bt115.2 = 1 then (if (t111.length : Int) = 3 then (if 0 < (t111.length : Int) then (if ((rd_T39 t111 0).f0 = true) then (none) else (if ((rd_T39 t111 0).f1.f1) = 1 then (if 1 < (t111.length : Int) then (if (rd_T39 t111 1).f0 = true then (if ((rd_T39 t111 1).f1.f1) = 3 then (if 2 < (t111.length : Int) then (if 0 < (((rd_T39 t111 2).f2).length : Int) then (some (((rd_T36 ((rd_T39 t111 2).f2) 0).f0) == 2 && (((rd_T36 ((rd_T39 t111 2).f2) 0).f1) == 3))) else (none)) else (none)) else (none)) else (none)) else (none)) else (none))) else (none)) else (none)) else (none)) else (none))) = some r := H
  have A1 := Aside0.mk A10
  clear A10
  replace H := Option.bind_eq_some_iff.mp H
  obtain ⟨⟨t115, t116⟩, A20, H⟩ := H
  replace H : (if t112 = 0 then (if t116 = 1 then (if (t111.length : Int) = 3 then (if 0 < (t111.length : Int) then (if ((rd_T39 t111 0).f0 = true) then (none) else (if ((rd_T39 t111 0).f1.f1) = 1 then (if 1 < (t111.length : Int) then (if (rd_T39 t111 1).f0 = true then (if ((rd_T39 t111 1).f1.f1) = 3 then (if 2 < (t111.length : Int) then (if 0 < (((rd_T39 t111 2).f2).length : Int) then (some (((rd_T36 ((rd_T39 t111 2).f2) 0).f0) == 2 && (((rd_T36 ((rd_T39 t111 2).f2) 0).f1) == 3))) else (none)) else (none)) else (none)) else (none)) else (none)) else (none))) else (none)) else (none)) else (none)) else (none)) = some r := H
  have A2 := Aside0.mk A20
  clear A20
  by_cases c3 : t112 = 0
  · rw [if_pos c3] at H
    have c3b0 : (t112 == 0) = true := beq_iff_eq.mpr c3
    have c3b1 : (t112 != 0) = false := bne_eq_false_iff_eq.mpr c3
    clear c3
    by_cases c4 : t116 = 1
    · rw [if_pos c4] at H
      have c4b0 : (t116 == 1) = true := beq_iff_eq.mpr c4
      have c4b1 : (t116 != 1) = false := bne_eq_false_iff_eq.mpr c4
      clear c4
      by_cases c5 : (t111.length : Int) = 3
      · rw [if_pos c5] at H
        have c5b0 : ((t111.length : Int) == 3) = true := beq_iff_eq.mpr c5
        have c5b1 : ((t111.length : Int) != 3) = false := bne_eq_false_iff_eq.mpr c5
        clear c5
        by_cases c6 : 0 < (t111.length : Int)
        · rw [if_pos c6] at H
          have c6b0 : decide (0 < (t111.length : Int)) = true := decide_eq_true c6
          have c6b1 : decide (0 < t111.length) = true := decide_eq_true (by omega)
          clear c6
          obtain ⟨bq7, hbq7⟩ : ∃ b_ : Bool, b_ = ((rd_T39 t111 0).f0) := ⟨_, rfl⟩
          replace H : (if (bq7 = true) then (none) else (if ((rd_T39 t111 0).f1.f1) = 1 then (if 1 < (t111.length : Int) then (if (rd_T39 t111 1).f0 = true then (if ((rd_T39 t111 1).f1.f1) = 3 then (if 2 < (t111.length : Int) then (if 0 < (((rd_T39 t111 2).f2).length : Int) then (some (((rd_T36 ((rd_T39 t111 2).f2) 0).f0) == 2 && (((rd_T36 ((rd_T39 t111 2).f2) 0).f1) == 3))) else (none)) else (none)) else (none)) else (none)) else (none)) else (none))) = some r := by rw [← hbq7] at H; exact H
          have Nbq7 := Aside0.mk hbq7
          clear hbq7
          by_cases c8 : (bq7 = true)
          · subst c8
            have H1 : (none) = some r := by rw [if_pos rfl] at H; exact H
            clear H
            have H := H1
            clear H1
            exact absurd H (by simp)
          · replace c8 := Bool.eq_false_iff.mpr c8
            subst c8
            have H1 : (if ((rd_T39 t111 0).f1.f1) = 1 then (if 1 < (t111.length : Int) then (if (rd_T39 t111 1).f0 = true then (if ((rd_T39 t111 1).f1.f1) = 3 then (if 2 < (t111.length : Int) then (if 0 < (((rd_T39 t111 2).f2).length : Int) then (some (((rd_T36 ((rd_T39 t111 2).f2) 0).f0) == 2 && (((rd_T36 ((rd_T39 t111 2).f2) 0).f1) == 3))) else (none)) else (none)) else (none)) else (none)) else (none)) else (none)) = some r := by rw [if_neg (show ¬ (false = true) by decide)] at H; exact H
            clear H
            have H := H1
            clear H1
            by_cases c21 : ((rd_T39 t111 0).f1.f1) = 1
            · rw [if_pos c21] at H
              have c21b0 : (((rd_T39 t111 0).f1.f1) == 1) = true := beq_iff_eq.mpr c21
              have c21b1 : (((rd_T39 t111 0).f1.f1) != 1) = false := bne_eq_false_iff_eq.mpr c21
              clear c21
              by_cases c22 : 1 < (t111.length : Int)
              · rw [if_pos c22] at H
                have c22b0 : decide (1 < (t111.length : Int)) = true := decide_eq_true c22
                have c22b1 : decide (1 < t111.length) = true := decide_eq_true (by omega)
                clear c22
                obtain ⟨bq23, hbq23⟩ : ∃ b_ : Bool, b_ = ((rd_T39 t111 1).f0) := ⟨_, rfl⟩
                replace H : (if bq23 = true then (if ((rd_T39 t111 1).f1.f1) = 3 then (if 2 < (t111.length : Int) then (if 0 < (((rd_T39 t111 2).f2).length : Int) then (some (((rd_T36 ((rd_T39 t111 2).f2) 0).f0) == 2 && (((rd_T36 ((rd_T39 t111 2).f2) 0).f1) == 3))) else (none)) else (none)) else (none)) else (none)) = some r := by rw [← hbq23] at H; exact H
                have Nbq23 := Aside0.mk hbq23
                clear hbq23
                by_cases c24 : bq23 = true
                · subst c24
                  have H1 : (if ((rd_T39 t111 1).f1.f1) = 3 then (if 2 < (t111.length : Int) then (if 0 < (((rd_T39 t111 2).f2).length : Int) then (some (((rd_T36 ((rd_T39 t111 2).f2) 0).f0) == 2 && (((rd_T36 ((rd_T39 t111 2).f2) 0).f1) == 3))) else (none)) else (none)) else (none)) = some r := by rw [if_pos rfl] at H; exact H
                  clear H
                  have H := H1
                  clear H1
                  by_cases c25 : ((rd_T39 t111 1).f1.f1) = 3
                  · rw [if_pos c25] at H
                    have c25b0 : (((rd_T39 t111 1).f1.f1) == 3) = true := beq_iff_eq.mpr c25
                    have c25b1 : (((rd_T39 t111 1).f1.f1) != 3) = false := bne_eq_false_iff_eq.mpr c25
                    clear c25
                    by_cases c26 : 2 < (t111.length : Int)
                    · rw [if_pos c26] at H
                      have c26b0 : decide (2 < (t111.length : Int)) = true := decide_eq_true c26
                      have c26b1 : decide (2 < t111.length) = true := decide_eq_true (by omega)
                      clear c26
                      by_cases c27 : 0 < (((rd_T39 t111 2).f2).length : Int)
                      · rw [if_pos c27] at H
                        have c27b0 : decide (0 < (((rd_T39 t111 2).f2).length : Int)) = true := decide_eq_true c27
                        have c27b1 : decide (0 < ((rd_T39 t111 2).f2).length) = true := decide_eq_true (by omega)
                        clear c27
                        obtain rfl := Option.some.inj H
                        go_enter Try.func14, Try.ntmps14
                        go_wp2_with (first | ((with_reducible refine gate_dst (N := 6) rfl ?_); (try (refine gate_guard (by rfl) ?_; dsimp only)); refine Kd.R_lit (Kd.int .i64) _ 3 ?hg (N := 6) ?hd (xs := ([3] : List Int)) (inner := [.int .i64 3]) (ok := fun _ => True) (okp := fun _ => True) ?hr ?hp (fun _ hk => hk) trivial (Below.refl _ _) (Nat.le_refl _) (by simp) ?_; (case hd => rfl); (case hg => rfl); (case hr => first | (go_simp; done) | (go_simp; rfl)); (case hp => exact (Reps.one (show Kd.M (Kd.int .i64) _ _ _ 3 [.int .i64 3] from rfl) (Reps.none _ _))); intro v103 w28 ho29 hb hg_ hnew_; clear hg_ hnew_; (first | rw [← Ny102.out] at ho29 | (simp only [Int.reduceToNat] at ho29; rw [← Ny102.out] at ho29)); have n0_ := Aside0.mk (Kd.R_lower ho29 (below_size (by repeat (first | (with_reducible first | exact HB.out | apply below_alloc | apply pw_below_drewN | apply below_drew1) | exact HB.out)))); have n1_ := Aside0.mk (below_step (by repeat (first | (with_reducible first | exact HB.out | apply below_alloc | apply pw_below_drewN | apply below_drew1) | exact HB.out)) hb); clear HB; have HO104 := n0_; have HB := n1_; clear n0_ n1_; clear hb ho29) | ((with_reducible refine gate_dst (N := 7) rfl ?_); (try (refine gate_guard (by rfl) ?_; dsimp only)); refine Kd.R_lit (Kd.int .i64) _ 3 ?hg (N := 7) ?hd (xs := ([(-1), 0, 1] : List Int)) (inner := [.int .i64 (-1), .int .i64 0, .int .i64 1]) (ok := fun _ => True) (okp := fun _ => True) ?hr ?hp (fun _ hk => hk) trivial (Below.refl _ _) (Nat.le_refl _) (by simp) ?_; (case hd => rfl); (case hg => rfl); (case hr => first | (go_simp; done) | (go_simp; rfl)); (case hp => exact (Reps.one (show Kd.M (Kd.int .i64) _ _ _ (-1) [.int .i64 (-1)] from rfl) (Reps.one (show Kd.M (Kd.int .i64) _ _ _ 0 [.int .i64 0] from rfl) (Reps.one (show Kd.M (Kd.int .i64) _ _ _ 1 [.int .i64 1] from rfl) (Reps.none _ _))))); intro v106 w30 ho31 hb hg_ hnew_; clear hg_ hnew_; (first | rw [← Ny105.out] at ho31 | (simp only [Int.reduceToNat] at ho31; rw [← Ny105.out] at ho31)); have n0_ := Aside0.mk (Kd.R_elder' (by (with_reducible repeat (first | apply Kd.R_alloc | apply Kd.R_drewN | apply Kd.R_drew)); exact HO104.out) (Kd.R_base ho31) hb); have n1_ := Aside0.mk (Kd.R_lower (Kd.R_new' ho31 (Kd.R_lt (by (with_reducible repeat (first | apply Kd.R_alloc | apply Kd.R_drewN | apply Kd.R_drew)); exact HO104.out))) (below_size (by repeat (first | (with_reducible first | exact HB.out | apply below_alloc | apply pw_below_drewN | apply below_drew1) | exact HB.out)))); have n2_ := Aside0.mk (below_step (by repeat (first | (with_reducible first | exact HB.out | apply below_alloc | apply pw_below_drewN | apply below_drew1) | exact HB.out)) hb); clear HO104; clear HB; have HO104 := n0_; have HO107 := n1_; have HB := n2_; clear n0_ n1_ n2_; clear hb ho31; obtain ⟨Ao32, co32, eo32⟩ := Kd.R_slice HO107.out; subst eo32) | ((with_reducible refine gate_dst (N := 8) rfl ?_); (try (refine gate_guard (by rfl) ?_; dsimp only)); refine Kd.N_lit (Kd.slice 3 (Kd.int .i64)) _ 26 ?hg (N' := 8) ?hd (xs := ([y105] : List (List Int))) (inner := [.slice Ao32 y105.length co32]) (ok := (fun k_ => some k_ ≠ (v103 : Value).ownBlock)) (okp := (fun k_ => some k_ ≠ (v103 : Value).ownBlock)) ?hr ?hp (fun _ hk => hk) ((show ∀ k_, w30.heap.size ≤ k_ → (fun k_ => some k_ ≠ (v103 : Value).ownBlock) k_ from fun k_ hk => Kd.fresh' (Kd.R_lt (by (with_reducible repeat (first | apply Kd.R_alloc | apply Kd.R_drewN | apply Kd.R_drew)); exact HO104.out)) k_ hk) _ (Nat.le_refl _)) (Below.refl _ _) (Nat.le_refl _) (by simp) ?_; (case hd => rfl); (case hg => rfl); (case hr => first | (go_simp; done) | (go_simp; rfl)); (case hp => exact (Reps.one (show Kd.FK (Kd.slice 3 (Kd.int .i64)) _ _ y105 [.slice Ao32 y105.length co32] from (Kd.FK_slice_mk (Kd.R_reads' (Kd.R_mono (ok' := (fun k_ => some k_ ≠ (v103 : Value).ownBlock)) (HO107.out) (fun k_ hk => hk.2))).2.1 (Kd.R_F (Kd.R_mono (ok' := (fun k_ => some k_ ≠ (v103 : Value).ownBlock)) (HO107.out) (fun k_ hk => hk.2))))) (Reps.none _ _))); intro v109 w33 ho34 hb hg_ hnew_; clear hg_ hnew_; (first | rw [← Ny108.out] at ho34 | (simp only [Int.reduceToNat] at ho34; rw [← Ny108.out] at ho34)); have n0_ := Aside0.mk (Kd.R_below (by (with_reducible repeat (first | apply Kd.R_alloc | apply Kd.R_drewN | apply Kd.R_drew)); exact HO104.out) hb); have n1_ := Aside0.mk (Kd.N_lower ho34 (below_size (by repeat (first | (with_reducible first | exact HB.out | apply below_alloc | apply pw_below_drewN | apply below_drew1) | exact HB.out)))); have n2_ := Aside0.mk (below_step (by repeat (first | (with_reducible first | exact HB.out | apply below_alloc | apply pw_below_drewN | apply below_drew1) | exact HB.out)) hb); clear HO104; clear HB; clear HO107; have HO104 := n0_; have HO110 := n1_; have HB := n2_; clear n0_ n1_ n2_; clear hb ho34; obtain ⟨Ao35, co35, eo35⟩ := Kd.R_slice HO104.out; subst eo35; obtain ⟨Ao36, co36, eo36⟩ := Kd.N_slice HO110.out; subst eo36) | ((with_reducible refine gate_callee (f := 31) rfl ?_); refine goesL_ (some 9) rfl rfl Try.func31 (by kernel_rfl) rfl #[.int .i64 3, .slice Ao35 y102.length co35, .slice Ao36 y108.length co36] rfl (by (try simp only [List.map_toArray, List.map_cons, List.map_nil]); first | done | rfl | (simp only [List.length_drop, List.length_take]; rfl)) ?_; (with_reducible refine (align_Align.calls k 3 _ _ y102 _ _ y108 t111 t112 _ ?side1 ?side2 ?side3 ?side4 A1.out).mono ?_); (case side1 => repeat (first | exact (Kd.R_reads' HO104.out).2.2 | (with_reducible refine Kd.C_alloc ?_ _) | (with_reducible refine Kd.C_drewN ?_ _) | (with_reducible refine Kd.C_drew ?_))); (case side2 => exact (Kd.R_reads' HO104.out).2.1); (case side3 => repeat (first | exact (Kd.N_reads' HO110.out).2.2 | (with_reducible refine Kd.C_alloc ?_ _) | (with_reducible refine Kd.C_drewN ?_ _) | (with_reducible refine Kd.C_drew ?_))); (case side4 => exact (Kd.N_reads' HO110.out).2.1); rintro e w37 ⟨v113, rfl, ho0, hb⟩; refine ⟨_, rfl, ?_⟩; have n0_ := Aside0.mk (Kd.R_below (by (with_reducible repeat (first | apply Kd.R_alloc | apply Kd.R_drewN | apply Kd.R_drew)); exact HO104.out) hb); have n1_ := Aside0.mk (Kd.N_elder' (by (with_reducible repeat (first | apply Kd.N_alloc | apply Kd.N_drewN | apply Kd.N_drew)); exact HO110.out) (Kd.S_base ho0) hb); have n2_ := Aside0.mk (Kd.N_lower (Kd.N_mono (ok' := fun k_ => some k_ ≠ (.slice Ao35 y102.length co35 : Value).ownBlock ∧ some k_ ≠ (.slice Ao36 y108.length co36 : Value).ownBlock) (Kd.S_N (Kd.S_bound ho0)) (fun k_ hk_ => ⟨(Kd.fresh' (Kd.R_lt (by (with_reducible repeat (first | apply Kd.R_alloc | apply Kd.R_drewN | apply Kd.R_drew)); exact HO104.out)) k_ hk_.2.1), (Kd.fresh' (Kd.N_lt (by (with_reducible repeat (first | apply Kd.N_alloc | apply Kd.N_drewN | apply Kd.N_drew)); exact HO110.out)) k_ hk_.2.1)⟩)) (below_size (by repeat (first | (with_reducible first | exact HB.out | apply below_alloc | apply pw_below_drewN | apply below_drew1) | exact HB.out)))); have n3_ := Aside0.mk (below_step (by repeat (first | (with_reducible first | exact HB.out | apply below_alloc | apply pw_below_drewN | apply below_drew1) | exact HB.out)) hb); clear HO104; clear HO110; clear HB; have HO104 := n0_; have HO110 := n1_; have HO114 := n2_; have HB := n3_; clear n0_ n1_ n2_ n3_; (try clear hb); (try clear hb2); (try clear hk); (try clear hi); (try clear ho0)) | ((with_reducible refine gate_callee (f := 31) rfl ?_); refine goesL_ (some 13) rfl rfl Try.func31 (by kernel_rfl) rfl #[.int .i64 3, .slice none 0 0, .slice none 0 0] rfl (by (try simp only [List.map_toArray, List.map_cons, List.map_nil]); first | done | rfl | (simp only [List.length_drop, List.length_take]; rfl)) ?_; (refine (align_Align.calls k 3 _ _ ([] : List Int) _ _ ([] : List (List Int)) t115 t116 _ ?side1 ?side2 ?side3 ?side4 A2.out).mono ?_); (case side1 => exact Kd.C_nil _ _); (case side2 => exact Nat.le_refl _); (case side3 => exact Kd.C_nil _ _); (case side4 => exact Nat.le_refl _); rintro e w38 ⟨v117, rfl, ho0, hb⟩; refine ⟨_, rfl, ?_⟩; have n0_ := Aside0.mk (Kd.R_below (by (with_reducible repeat (first | apply Kd.R_alloc | apply Kd.R_drewN | apply Kd.R_drew)); exact HO104.out) hb); have n1_ := Aside0.mk (Kd.N_elder' (by (with_reducible repeat (first | apply Kd.N_alloc | apply Kd.N_drewN | apply Kd.N_drew)); exact HO110.out) (Kd.S_base ho0) hb); have n2_ := Aside0.mk (Kd.N_elder' (by (with_reducible repeat (first | apply Kd.N_alloc | apply Kd.N_drewN | apply Kd.N_drew)); exact HO114.out) (Kd.S_base ho0) hb); have n3_ := Aside0.mk (Kd.N_lower (Kd.N_mono (ok' := fun k_ => some k_ ≠ (.slice Ao35 y102.length co35 : Value).ownBlock ∧ some k_ ≠ (.slice Ao36 y108.length co36 : Value).ownBlock ∧ some k_ ≠ (v113 : Value).ownBlock) (Kd.S_N (Kd.S_bound ho0)) (fun k_ hk_ => ⟨(Kd.fresh' (Kd.R_lt (by (with_reducible repeat (first | apply Kd.R_alloc | apply Kd.R_drewN | apply Kd.R_drew)); exact HO104.out)) k_ hk_.2.1), (Kd.fresh' (Kd.N_lt (by (with_reducible repeat (first | apply Kd.N_alloc | apply Kd.N_drewN | apply Kd.N_drew)); exact HO110.out)) k_ hk_.2.1), (Kd.fresh' (Kd.N_lt (by (with_reducible repeat (first | apply Kd.N_alloc | apply Kd.N_drewN | apply Kd.N_drew)); exact HO114.out)) k_ hk_.2.1)⟩)) (below_size (by repeat (first | (with_reducible first | exact HB.out | apply below_alloc | apply pw_below_drewN | apply below_drew1) | exact HB.out)))); have n4_ := Aside0.mk (below_step (by repeat (first | (with_reducible first | exact HB.out | apply below_alloc | apply pw_below_drewN | apply below_drew1) | exact HB.out)) hb); clear HO104; clear HO110; clear HO114; clear HB; have HO104 := n0_; have HO110 := n1_; have HO114 := n2_; have HO118 := n3_; have HB := n4_; clear n0_ n1_ n2_ n3_ n4_; (try clear hb); (try clear hb2); (try clear hk); (try clear hi); (try clear ho0); obtain ⟨Ao39, co39, eo39⟩ := Kd.N_slice HO114.out; subst eo39; have p119 : 0 ≤ (0 : Int) := (by omega); have q119 : 0 < (t111.length : Int) := of_decide_eq_true (by first | (with_reducible assumption) | assumption); obtain ⟨ad119, A119_3, c119_3, e119, hx119_0, hx119_1, hx119_2, hx119_3, hl119_3, hi119_3⟩ := at_T39 (Kd.N_reads' HO114.out).2.2 0 p119 q119; (try rw [← Nbq7.out] at hx119_0); (try rw [← Nbq23.out] at hx119_0); cases e119; obtain ⟨ce119, hce119, hMe119, hcc119⟩ := Kd.N_get HO114.out z39 0 p119 (by first | exact q119 | exact of_decide_eq_true (by first | (with_reducible assumption) | assumption) | (have e_ := (Kd.N_reads' HO114.out).1; omega)); obtain ⟨ua119_3, uc119_3, rfl, ul119_3, ge119_3⟩ := k39_openF hMe119; have hv119_3 := hcc119 3 _ rfl; rw [add_field _ _ 3 (by omega)] at hv119_3; replace hv119_3 := Option.some.inj (hv119_3.symm.trans hx119_3); injection hv119_3 with hva_ hvn_ hvc_; rw [hva_] at ge119_3; rw [hvc_] at ul119_3; have HL119_3 := Aside0.mk (show Kd.V k36 36 _ w.heap.size _ _ ((rd_T39 t111 0).f2) from Kd.V_mk ul119_3 ge119_3); clear hva_ hvn_ hvc_ ge119_3 ul119_3; clear hcc119 hce119; have qi119 : (0 < t111.length) = True := eq_true (by omega); (try rw [show ((0 : Int)).toNat = 0 from rfl] at hx119_0); (try rw [show 0 * 4 = 0 from rfl] at hx119_0); (try rw [Addr.add_zero'] at hx119_0); (try rw [show ((0 : Int)).toNat = 0 from rfl] at hx119_1); (try rw [show 0 * 4 = 0 from rfl] at hx119_1); (try rw [Addr.add_zero'] at hx119_1); (try rw [show ((0 : Int)).toNat = 0 from rfl] at hx119_2); (try rw [show 0 * 4 = 0 from rfl] at hx119_2); (try rw [Addr.add_zero'] at hx119_2); (try rw [show ((0 : Int)).toNat = 0 from rfl] at hx119_3); (try rw [show 0 * 4 = 0 from rfl] at hx119_3); (try rw [Addr.add_zero'] at hx119_3); have HR119_3 := Aside0.mk hi119_3; have HC119_3 := Aside0.mk hl119_3; clear hi119_3 hl119_3; replace p119 := eq_true p119; replace q119 := eq_true q119; have p120 : 0 ≤ (0 : Int) := (by omega); have q120 : 0 < (t111.length : Int) := of_decide_eq_true (by first | (with_reducible assumption) | assumption); obtain ⟨ad120, A120_3, c120_3, e120, hx120_0, hx120_1, hx120_2, hx120_3, hl120_3, hi120_3⟩ := at_T39 (Kd.N_reads' HO114.out).2.2 0 p120 q120; (try rw [← Nbq7.out] at hx120_0); (try rw [← Nbq23.out] at hx120_0); obtain rfl : ad119 = ad120 := (by injection e120); obtain ⟨ce120, hce120, hMe120, hcc120⟩ := Kd.N_get HO114.out z39 0 p120 (by first | exact q120 | exact of_decide_eq_true (by first | (with_reducible assumption) | assumption) | (have e_ := (Kd.N_reads' HO114.out).1; omega)); obtain ⟨ua120_3, uc120_3, rfl, ul120_3, ge120_3⟩ := k39_openF hMe120; have hv120_3 := hcc120 3 _ rfl; rw [add_field _ _ 3 (by omega)] at hv120_3; replace hv120_3 := Option.some.inj (hv120_3.symm.trans hx120_3); injection hv120_3 with hva_ hvn_ hvc_; rw [hva_] at ge120_3; rw [hvc_] at ul120_3; have HL120_3 := Aside0.mk (show Kd.V k36 36 _ w.heap.size _ _ ((rd_T39 t111 0).f2) from Kd.V_mk ul120_3 ge120_3); clear hva_ hvn_ hvc_ ge120_3 ul120_3; clear hcc120 hce120; have qi120 : (0 < t111.length) = True := eq_true (by omega); (try rw [show ((0 : Int)).toNat = 0 from rfl] at hx120_0); (try rw [show 0 * 4 = 0 from rfl] at hx120_0); (try rw [Addr.add_zero'] at hx120_0); (try rw [show ((0 : Int)).toNat = 0 from rfl] at hx120_1); (try rw [show 0 * 4 = 0 from rfl] at hx120_1); (try rw [Addr.add_zero'] at hx120_1); (try rw [show ((0 : Int)).toNat = 0 from rfl] at hx120_2); (try rw [show 0 * 4 = 0 from rfl] at hx120_2); (try rw [Addr.add_zero'] at hx120_2); (try rw [show ((0 : Int)).toNat = 0 from rfl] at hx120_3); (try rw [show 0 * 4 = 0 from rfl] at hx120_3); (try rw [Addr.add_zero'] at hx120_3); have HR120_3 := Aside0.mk hi120_3; have HC120_3 := Aside0.mk hl120_3; clear hi120_3 hl120_3; replace p120 := eq_true p120; replace q120 := eq_true q120; have ea_ := Option.some.inj (hx119_3.symm.trans hx120_3); injection ea_ with ea_ en_ ec_; subst ea_; subst ec_; clear en_; have p121 : 0 ≤ (1 : Int) := (by omega); have q121 : 1 < (t111.length : Int) := of_decide_eq_true (by first | (with_reducible assumption) | assumption); obtain ⟨ad121, A121_3, c121_3, e121, hx121_0, hx121_1, hx121_2, hx121_3, hl121_3, hi121_3⟩ := at_T39 (Kd.N_reads' HO114.out).2.2 1 p121 q121; (try rw [← Nbq7.out] at hx121_0); (try rw [← Nbq23.out] at hx121_0); obtain rfl : ad119 = ad121 := (by injection e121); obtain ⟨ce121, hce121, hMe121, hcc121⟩ := Kd.N_get HO114.out z39 1 p121 (by first | exact q121 | exact of_decide_eq_true (by first | (with_reducible assumption) | assumption) | (have e_ := (Kd.N_reads' HO114.out).1; omega)); obtain ⟨ua121_3, uc121_3, rfl, ul121_3, ge121_3⟩ := k39_openF hMe121; have hv121_3 := hcc121 3 _ rfl; rw [add_field _ _ 3 (by omega)] at hv121_3; replace hv121_3 := Option.some.inj (hv121_3.symm.trans hx121_3); injection hv121_3 with hva_ hvn_ hvc_; rw [hva_] at ge121_3; rw [hvc_] at ul121_3; have HL121_3 := Aside0.mk (show Kd.V k36 36 _ w.heap.size _ _ ((rd_T39 t111 1).f2) from Kd.V_mk ul121_3 ge121_3); clear hva_ hvn_ hvc_ ge121_3 ul121_3; clear hcc121 hce121; (try simp only [show (1 : Int).toNat = 1 from rfl, Nat.reduceMul, Nat.reduceEqDiff, Go.Addr.add, ↓reduceIte] at hx121_0); (try simp only [show (1 : Int).toNat = 1 from rfl, Nat.reduceMul, Nat.reduceEqDiff, Go.Addr.add, ↓reduceIte] at hx121_1); (try simp only [show (1 : Int).toNat = 1 from rfl, Nat.reduceMul, Nat.reduceEqDiff, Go.Addr.add, ↓reduceIte] at hx121_2); (try simp only [show (1 : Int).toNat = 1 from rfl, Nat.reduceMul, Nat.reduceEqDiff, Go.Addr.add, ↓reduceIte] at hx121_3); have qi121 : (1 < t111.length) = True := eq_true (by omega); (try rw [show ((1 : Int)).toNat = 1 from rfl] at hx121_0); (try rw [show 1 * 4 = 4 from rfl] at hx121_0); (try rw [show ((1 : Int)).toNat = 1 from rfl] at hx121_1); (try rw [show 1 * 4 = 4 from rfl] at hx121_1); (try rw [show ((1 : Int)).toNat = 1 from rfl] at hx121_2); (try rw [show 1 * 4 = 4 from rfl] at hx121_2); (try rw [show ((1 : Int)).toNat = 1 from rfl] at hx121_3); (try rw [show 1 * 4 = 4 from rfl] at hx121_3); have HR121_3 := Aside0.mk hi121_3; have HC121_3 := Aside0.mk hl121_3; clear hi121_3 hl121_3; replace p121 := eq_true p121; replace q121 := eq_true q121; have p122 : 0 ≤ (1 : Int) := (by omega); have q122 : 1 < (t111.length : Int) := of_decide_eq_true (by first | (with_reducible assumption) | assumption); obtain ⟨ad122, A122_3, c122_3, e122, hx122_0, hx122_1, hx122_2, hx122_3, hl122_3, hi122_3⟩ := at_T39 (Kd.N_reads' HO114.out).2.2 1 p122 q122; (try rw [← Nbq7.out] at hx122_0); (try rw [← Nbq23.out] at hx122_0); obtain rfl : ad119 = ad122 := (by injection e122); obtain ⟨ce122, hce122, hMe122, hcc122⟩ := Kd.N_get HO114.out z39 1 p122 (by first | exact q122 | exact of_decide_eq_true (by first | (with_reducible assumption) | assumption) | (have e_ := (Kd.N_reads' HO114.out).1; omega)); obtain ⟨ua122_3, uc122_3, rfl, ul122_3, ge122_3⟩ := k39_openF hMe122; have hv122_3 := hcc122 3 _ rfl; rw [add_field _ _ 3 (by omega)] at hv122_3; replace hv122_3 := Option.some.inj (hv122_3.symm.trans hx122_3); injection hv122_3 with hva_ hvn_ hvc_; rw [hva_] at ge122_3; rw [hvc_] at ul122_3; have HL122_3 := Aside0.mk (show Kd.V k36 36 _ w.heap.size _ _ ((rd_T39 t111 1).f2) from Kd.V_mk ul122_3 ge122_3); clear hva_ hvn_ hvc_ ge122_3 ul122_3; clear hcc122 hce122; (try simp only [show (1 : Int).toNat = 1 from rfl, Nat.reduceMul, Nat.reduceEqDiff, Go.Addr.add, ↓reduceIte] at hx122_0); (try simp only [show (1 : Int).toNat = 1 from rfl, Nat.reduceMul, Nat.reduceEqDiff, Go.Addr.add, ↓reduceIte] at hx122_1); (try simp only [show (1 : Int).toNat = 1 from rfl, Nat.reduceMul, Nat.reduceEqDiff, Go.Addr.add, ↓reduceIte] at hx122_2); (try simp only [show (1 : Int).toNat = 1 from rfl, Nat.reduceMul, Nat.reduceEqDiff, Go.Addr.add, ↓reduceIte] at hx122_3); have qi122 : (1 < t111.length) = True := eq_true (by omega); (try rw [show ((1 : Int)).toNat = 1 from rfl] at hx122_0); (try rw [show 1 * 4 = 4 from rfl] at hx122_0); (try rw [show ((1 : Int)).toNat = 1 from rfl] at hx122_1); (try rw [show 1 * 4 = 4 from rfl] at hx122_1); (try rw [show ((1 : Int)).toNat = 1 from rfl] at hx122_2); (try rw [show 1 * 4 = 4 from rfl] at hx122_2); (try rw [show ((1 : Int)).toNat = 1 from rfl] at hx122_3); (try rw [show 1 * 4 = 4 from rfl] at hx122_3); have HR122_3 := Aside0.mk hi122_3; have HC122_3 := Aside0.mk hl122_3; clear hi122_3 hl122_3; replace p122 := eq_true p122; replace q122 := eq_true q122; have ea_ := Option.some.inj (hx121_3.symm.trans hx122_3); injection ea_ with ea_ en_ ec_; subst ea_; subst ec_; clear en_; have p123 : 0 ≤ (2 : Int) := (by omega); have q123 : 2 < (t111.length : Int) := of_decide_eq_true (by first | (with_reducible assumption) | assumption); obtain ⟨ad123, A123_3, c123_3, e123, hx123_0, hx123_1, hx123_2, hx123_3, hl123_3, hi123_3⟩ := at_T39 (Kd.N_reads' HO114.out).2.2 2 p123 q123; (try rw [← Nbq7.out] at hx123_0); (try rw [← Nbq23.out] at hx123_0); obtain rfl : ad119 = ad123 := (by injection e123); obtain ⟨ce123, hce123, hMe123, hcc123⟩ := Kd.N_get HO114.out z39 2 p123 (by first | exact q123 | exact of_decide_eq_true (by first | (with_reducible assumption) | assumption) | (have e_ := (Kd.N_reads' HO114.out).1; omega)); obtain ⟨ua123_3, uc123_3, rfl, ul123_3, ge123_3⟩ := k39_openF hMe123; have hv123_3 := hcc123 3 _ rfl; rw [add_field _ _ 3 (by omega)] at hv123_3; replace hv123_3 := Option.some.inj (hv123_3.symm.trans hx123_3); injection hv123_3 with hva_ hvn_ hvc_; rw [hva_] at ge123_3; rw [hvc_] at ul123_3; have HL123_3 := Aside0.mk (show Kd.V k36 36 _ w.heap.size _ _ ((rd_T39 t111 2).f2) from Kd.V_mk ul123_3 ge123_3); clear hva_ hvn_ hvc_ ge123_3 ul123_3; clear hcc123 hce123; (try simp only [show (2 : Int).toNat = 2 from rfl, Nat.reduceMul, Nat.reduceEqDiff, Go.Addr.add, ↓reduceIte] at hx123_0); (try simp only [show (2 : Int).toNat = 2 from rfl, Nat.reduceMul, Nat.reduceEqDiff, Go.Addr.add, ↓reduceIte] at hx123_1); (try simp only [show (2 : Int).toNat = 2 from rfl, Nat.reduceMul, Nat.reduceEqDiff, Go.Addr.add, ↓reduceIte] at hx123_2); (try simp only [show (2 : Int).toNat = 2 from rfl, Nat.reduceMul, Nat.reduceEqDiff, Go.Addr.add, ↓reduceIte] at hx123_3); have qi123 : (2 < t111.length) = True := eq_true (by omega); (try rw [show ((2 : Int)).toNat = 2 from rfl] at hx123_0); (try rw [show 2 * 4 = 8 from rfl] at hx123_0); (try rw [show ((2 : Int)).toNat = 2 from rfl] at hx123_1); (try rw [show 2 * 4 = 8 from rfl] at hx123_1); (try rw [show ((2 : Int)).toNat = 2 from rfl] at hx123_2); (try rw [show 2 * 4 = 8 from rfl] at hx123_2); (try rw [show ((2 : Int)).toNat = 2 from rfl] at hx123_3); (try rw [show 2 * 4 = 8 from rfl] at hx123_3); have HR123_3 := Aside0.mk hi123_3; have HC123_3 := Aside0.mk hl123_3; clear hi123_3 hl123_3; replace p123 := eq_true p123; replace q123 := eq_true q123; have p124 : 0 ≤ (0 : Int) := (by omega); have q124 : 0 < (((rd_T39 t111 2).f2).length : Int) := of_decide_eq_true (by first | (with_reducible assumption) | assumption); obtain ⟨ad124, e124, hx124_0, hx124_1⟩ := at_T36 (by repeat (first | (with_reducible exact HR123_3.out) | (with_reducible refine Kd.C_alloc ?_ _) | (with_reducible refine Kd.C_drewN ?_ _) | (with_reducible refine Kd.C_drew ?_) | exact HR123_3.out)) 0 p124 q124; cases e124; have qi124 : (0 < ((rd_T39 t111 2).f2).length) = True := eq_true (by omega); (try rw [show ((0 : Int)).toNat = 0 from rfl] at hx124_0); (try rw [show 0 * 2 = 0 from rfl] at hx124_0); (try rw [Addr.add_zero'] at hx124_0); (try rw [show ((0 : Int)).toNat = 0 from rfl] at hx124_1); (try rw [show 0 * 2 = 0 from rfl] at hx124_1); (try rw [Addr.add_zero'] at hx124_1); replace p124 := eq_true p124; replace q124 := eq_true q124))
                        go_ret
                        exact ⟨by first | rfl | (simp [errW_none, errW_some] <;> rfl) | (simp [*, errW_none, errW_some] <;> rfl), by repeat (first | (with_reducible first | exact HB.out | apply below_alloc | apply pw_below_drewN | apply below_drew1) | exact HB.out)⟩
                      · rw [if_neg c27] at H
                        exact absurd H (by simp)
                    · rw [if_neg c26] at H
                      exact absurd H (by simp)
                  · rw [if_neg c25] at H
                    have c25b0 : (((rd_T39 t111 1).f1.f1) == 3) = false := beq_eq_false_iff_ne.mpr c25
                    have c25b1 : (((rd_T39 t111 1).f1.f1) != 3) = true := bne_iff_ne.mpr c25
                    exact absurd H (by simp)
                · replace c24 := Bool.eq_false_iff.mpr c24
                  subst c24
                  have H1 : (none) = some r := by rw [if_neg (show ¬ (false = true) by decide)] at H; exact H
                  clear H
                  have H := H1
                  clear H1
                  exact absurd H (by simp)
              · rw [if_neg c22] at H
                exact absurd H (by simp)
            · rw [if_neg c21] at H
              have c21b0 : (((rd_T39 t111 0).f1.f1) == 1) = false := beq_eq_false_iff_ne.mpr c21
              have c21b1 : (((rd_T39 t111 0).f1.f1) != 1) = true := bne_iff_ne.mpr c21
              exact absurd H (by simp)
        · rw [if_neg c6] at H
          exact absurd H (by simp)
      · rw [if_neg c5] at H
        have c5b0 : ((t111.length : Int) == 3) = false := beq_eq_false_iff_ne.mpr c5
        have c5b1 : ((t111.length : Int) != 3) = true := bne_iff_ne.mpr c5
        exact absurd H (by simp)
    · rw [if_neg c4] at H
      have c4b0 : (t116 == 1) = false := beq_eq_false_iff_ne.mpr c4
      have c4b1 : (t116 != 1) = true := bne_iff_ne.mpr c4
      exact absurd H (by simp)
  · rw [if_neg c3] at H
    have c3b0 : (t112 == 0) = false := beq_eq_false_iff_ne.mpr c3
    have c3b1 : (t112 != 0) = true := bne_iff_ne.mpr c3
    exact absurd H (by simp)

end Go.Proofs.Ytnebadlakmlkkaa.M
namespace Go.Proofs.Ytnebadlakmlkkaa.M
open Go.RowKit Go.Proofs.YtnebadlakmlkkaaW.PrintWords Go.Proofs.YtnebadlakmlkkaaW.PrintLast Go.Proofs.YtnebadlakmlkkaaW.PrintMore
attribute [local go_sem] max2_int min2_int max_two min_two max_three min_three max_four min_four
set_option linter.unusedVariables false
set_option linter.unusedSimpArgs false

/-! ### sennitlaw05_cut: function 19 -/
def sennitlaw05_cut.f (k : Nat) (l0 : List Int) (l1 : List (List Int)) : Option ((List (S39))) := (sennitref03_Ints.f k l0).bind fun t196 => ((sennitref05_Lists.f k l1).bind fun t199 => ((sennitref05_Matches.f k t196 t199).bind fun bt202 => ((align_Align.f k (l0.length : Int) bt202.1 bt202.2).bind fun bt208 => (some bt208.1))))
theorem sennitlaw05_cut.mono : ∀ a0 a1 k, LeO (sennitlaw05_cut.f k a0 a1) (sennitlaw05_cut.f (k + 1) a0 a1) := by
  intro a0 a1 k
  unfold sennitlaw05_cut.f
  repeat' first
      | (with_reducible exact align_Align.mono _ _ _ _)
      | (with_reducible exact sennitref03_Ints.mono _ _)
      | (with_reducible exact sennitref05_Lists.mono _ _)
      | (with_reducible exact sennitref05_Matches.mono _ _ _)
      | (with_reducible exact LeO.refl _)
      | (with_reducible exact LeO.none _)
      | (with_reducible refine LeO.ite ?_ ?_)
      | (with_reducible refine LeO.bind ?_ (fun _ => ?_))
      | exact align_Align.mono _ _ _ _
      | exact sennitref03_Ints.mono _ _
      | exact sennitref05_Lists.mono _ _
      | exact sennitref05_Matches.mono _ _ _
      | exact LeO.none _
      | refine LeO.ite ?_ ?_
      | refine LeO.bind ?_ (fun _ => ?_)
set_option maxHeartbeats 8000000 in
set_option maxRecDepth 100000 in
theorem sennitlaw05_cut.calls (k : Nat) (A0 : Option Addr) (c0 : Nat) (l0 : List Int) (A1 : Option Addr) (c1 : Nat) (l1 : List (List Int)) (r : List (S39)) (w : World) (hr0 : Kd.C (Kd.int .u8) w A0 l0.length l0) (hc0 : l0.length ≤ c0) (hr1 : Kd.C (Kd.slice 5 (Kd.int .u8)) w A1 l1.length l1) (hc1 : l1.length ≤ c1) (h : sennitlaw05_cut.f k l0 l1 = some r) :
    Calls Try.prog 19 #[.slice A0 l0.length c0, .slice A1 l1.length c1] w fun e w' => ∃ v0_ : Value, e = .returned (v0_) ∧ Kd.S k39 39 w' w.heap.size (fun _ => True) v0_ r ∧ Below w.heap.size w w' := by
  have HR0 := Aside0.mk hr0
  have HC0 := Aside0.mk hc0
  clear hr0 hc0
  have HR1 := Aside0.mk hr1
  have HC1 := Aside0.mk hc1
  clear hr1 hc1
  have HB := Aside0.mk (Below.refl w.heap.size w)
  have H : ((sennitref03_Ints.f k l0).bind fun t196 => ((sennitref05_Lists.f k l1).bind fun t199 => ((sennitref05_Matches.f k t196 t199).bind fun bt202 => ((align_Align.f k (l0.length : Int) bt202.1 bt202.2).bind fun bt208 => (some bt208.1))))) = some r := h
  clear h
  replace H := Option.bind_eq_some_iff.mp H
  obtain ⟨t196, A30, H⟩ := H
  replace H : ((sennitref05_Lists.f k l1).bind fun t199 => ((sennitref05_Matches.f k t196 t199).bind fun bt202 => ((align_Align.f k (l0.length : Int) bt202.1 bt202.2).bind fun bt208 => (some bt208.1)))) = some r := H
  have A3 := Aside0.mk A30
  clear A30
  replace H := Option.bind_eq_some_iff.mp H
  obtain ⟨t199, A40, H⟩ := H
  replace H : ((sennitref05_Matches.f k t196 t199).bind fun bt202 => ((align_Align.f k (l0.length : Int) bt202.1 bt202.2).bind fun bt208 => (some bt208.1))) = some r := H
  have A4 := Aside0.mk A40
  clear A40
  replace H := Option.bind_eq_some_iff.mp H
  obtain ⟨⟨t202, t203⟩, A50, H⟩ := H
  replace H : ((align_Align.f k (l0.length : Int) t202 t203).bind fun bt208 => (some bt208.1)) = some r := H
  have A5 := Aside0.mk A50
  clear A50
  replace H := Option.bind_eq_some_iff.mp H
  obtain ⟨⟨t208, t209⟩, A60, H⟩ := H
  replace H : (some t208) = some r := H
  have A6 := Aside0.mk A60
  clear A60
  obtain rfl := Option.some.inj H
  go_enter Try.func19, Try.ntmps19
  go_wp2_with (first | ((with_reducible refine gate_callee (f := 20) rfl ?_); refine goesL_ (some 11) rfl rfl Try.func20 (by kernel_rfl) rfl #[.slice A0 l0.length c0] rfl (by (try simp only [List.map_toArray, List.map_cons, List.map_nil]); first | done | rfl | (simp only [List.length_drop, List.length_take]; rfl)) ?_; (with_reducible refine (sennitref03_Ints.calls k _ _ l0 t196 _ ?side1 ?side2 A3.out).mono ?_); (case side1 => repeat (first | exact HR0.out | (with_reducible refine Kd.C_alloc ?_ _) | (with_reducible refine Kd.C_drewN ?_ _) | (with_reducible refine Kd.C_drew ?_))); (case side2 => exact HC0.out); rintro e w7 ⟨v197, rfl, ho0, hb⟩; refine ⟨_, rfl, ?_⟩; have n0_ := Aside0.mk (Kd.R_lower ho0 (below_size (by repeat (first | (with_reducible first | exact HB.out | apply below_alloc | apply pw_below_drewN | apply below_drew1) | exact HB.out)))); have n1_ := Aside0.mk (below_step (by repeat (first | (with_reducible first | exact HB.out | apply below_alloc | apply pw_below_drewN | apply below_drew1) | exact HB.out)) hb); clear HB; have HO198 := n0_; have HB := n1_; clear n0_ n1_; (try clear hb); (try clear hb2); (try clear hk); (try clear hi); (try clear ho0)) | ((with_reducible refine gate_callee (f := 17) rfl ?_); refine goesL_ (some 13) rfl rfl Try.func17 (by kernel_rfl) rfl #[.slice A1 l1.length c1] rfl (by (try simp only [List.map_toArray, List.map_cons, List.map_nil]); first | done | rfl | (simp only [List.length_drop, List.length_take]; rfl)) ?_; (with_reducible refine (sennitref05_Lists.calls k _ _ l1 t199 _ ?side1 ?side2 A4.out).mono ?_); (case side1 => repeat (first | exact (Kd.C_below HR1.out HB.out) | (with_reducible refine Kd.C_alloc ?_ _) | (with_reducible refine Kd.C_drewN ?_ _) | (with_reducible refine Kd.C_drew ?_))); (case side2 => exact HC1.out); rintro e w8 ⟨v200, rfl, ho0, hb⟩; refine ⟨_, rfl, ?_⟩; have n0_ := Aside0.mk (Kd.R_below (by (with_reducible repeat (first | apply Kd.R_alloc | apply Kd.R_drewN | apply Kd.R_drew)); exact HO198.out) hb); have n1_ := Aside0.mk (Kd.S_lower (Kd.S_new' ho0 (Kd.R_lt (by (with_reducible repeat (first | apply Kd.R_alloc | apply Kd.R_drewN | apply Kd.R_drew)); exact HO198.out))) (below_size (by repeat (first | (with_reducible first | exact HB.out | apply below_alloc | apply pw_below_drewN | apply below_drew1) | exact HB.out)))); have n2_ := Aside0.mk (below_step (by repeat (first | (with_reducible first | exact HB.out | apply below_alloc | apply pw_below_drewN | apply below_drew1) | exact HB.out)) hb); clear HO198; clear HB; have HO198 := n0_; have HO201 := n1_; have HB := n2_; clear n0_ n1_ n2_; (try clear hb); (try clear hb2); (try clear hk); (try clear hi); (try clear ho0); obtain ⟨Ao9, co9, eo9⟩ := Kd.R_slice HO198.out; subst eo9; obtain ⟨Ao10, co10, eo10⟩ := Kd.S_slice HO201.out; subst eo10) | ((with_reducible refine gate_callee (f := 16) rfl ?_); refine goesL_ (some 14) rfl rfl Try.func16 (by kernel_rfl) rfl #[.slice Ao9 t196.length co9, .slice Ao10 t199.length co10] rfl (by (try simp only [List.map_toArray, List.map_cons, List.map_nil]); first | done | rfl | (simp only [List.length_drop, List.length_take]; rfl)) ?_; (with_reducible refine (sennitref05_Matches.calls k _ _ t196 _ _ t199 t202 t203 _ ?side1 ?side2 ?side3 ?side4 A5.out).mono ?_); (case side1 => repeat (first | exact (Kd.R_reads' HO198.out).2.2 | (with_reducible refine Kd.C_alloc ?_ _) | (with_reducible refine Kd.C_drewN ?_ _) | (with_reducible refine Kd.C_drew ?_))); (case side2 => exact (Kd.R_reads' HO198.out).2.1); (case side3 => repeat (first | exact (Kd.S_reads' HO201.out).2.2 | (with_reducible refine Kd.C_alloc ?_ _) | (with_reducible refine Kd.C_drewN ?_ _) | (with_reducible refine Kd.C_drew ?_))); (case side4 => exact (Kd.S_reads' HO201.out).2.1); rintro e w11 ⟨v204, v206, rfl, ho0, ho1, hb⟩; refine ⟨_, rfl, ?_⟩; have n0_ := Aside0.mk (Kd.R_elder' (by (with_reducible repeat (first | apply Kd.R_alloc | apply Kd.R_drewN | apply Kd.R_drew)); exact HO198.out) (Kd.R_base ho0) hb); have n1_ := Aside0.mk (Kd.S_mono (Kd.S_told (Kd.S_told (Kd.S_old (by (with_reducible repeat (first | apply Kd.S_alloc | apply Kd.S_drewN | apply Kd.S_drew)); exact HO201.out) hb) (Kd.R_base ho0)) (Kd.S_base ho1)) (fun _ h_ => h_.1)); have n2_ := Aside0.mk (Kd.R_lower (Kd.R_new' ho0 (Kd.R_lt (by (with_reducible repeat (first | apply Kd.R_alloc | apply Kd.R_drewN | apply Kd.R_drew)); exact HO198.out))) (below_size (by repeat (first | (with_reducible first | exact HB.out | apply below_alloc | apply pw_below_drewN | apply below_drew1) | exact HB.out)))); have n3_ := Aside0.mk (Kd.S_lower (Kd.S_new' (Kd.S_new' ho1 (Kd.R_lt (by (with_reducible repeat (first | apply Kd.R_alloc | apply Kd.R_drewN | apply Kd.R_drew)); exact HO198.out))) (Kd.S_lt (by (with_reducible repeat (first | apply Kd.S_alloc | apply Kd.S_drewN | apply Kd.S_drew)); exact HO201.out))) (below_size (by repeat (first | (with_reducible first | exact HB.out | apply below_alloc | apply pw_below_drewN | apply below_drew1) | exact HB.out)))); have n4_ := Aside0.mk (below_step (by repeat (first | (with_reducible first | exact HB.out | apply below_alloc | apply pw_below_drewN | apply below_drew1) | exact HB.out)) hb); clear HO198; clear HO201; clear HB; have HO198 := n0_; have HO201 := n1_; have HO205 := n2_; have HO207 := n3_; have HB := n4_; clear n0_ n1_ n2_ n3_ n4_; (try clear hb); (try clear hb2); (try clear hk); (try clear hi); (try clear ho0); (try clear ho1); obtain ⟨Ao12, co12, eo12⟩ := Kd.R_slice HO205.out; subst eo12; obtain ⟨Ao13, co13, eo13⟩ := Kd.S_slice HO207.out; subst eo13) | ((with_reducible refine gate_callee (f := 31) rfl ?_); refine goesL_ (some 22) rfl rfl Try.func31 (by kernel_rfl) rfl #[.int .i64 (l0.length : Int), .slice Ao12 t202.length co12, .slice Ao13 t203.length co13] rfl (by (try simp only [List.map_toArray, List.map_cons, List.map_nil]); first | done | rfl | (simp only [List.length_drop, List.length_take]; rfl)) ?_; (with_reducible refine (align_Align.calls k (l0.length : Int) _ _ t202 _ _ t203 t208 t209 _ ?side1 ?side2 ?side3 ?side4 A6.out).mono ?_); (case side1 => repeat (first | exact (Kd.R_reads' HO205.out).2.2 | (with_reducible refine Kd.C_alloc ?_ _) | (with_reducible refine Kd.C_drewN ?_ _) | (with_reducible refine Kd.C_drew ?_))); (case side2 => exact (Kd.R_reads' HO205.out).2.1); (case side3 => repeat (first | exact (Kd.S_reads' HO207.out).2.2 | (with_reducible refine Kd.C_alloc ?_ _) | (with_reducible refine Kd.C_drewN ?_ _) | (with_reducible refine Kd.C_drew ?_))); (case side4 => exact (Kd.S_reads' HO207.out).2.1); rintro e w14 ⟨v210, rfl, ho0, hb⟩; refine ⟨_, rfl, ?_⟩; have n0_ := Aside0.mk (Kd.R_below (by (with_reducible repeat (first | apply Kd.R_alloc | apply Kd.R_drewN | apply Kd.R_drew)); exact HO198.out) hb); have n1_ := Aside0.mk (Kd.S_below (by (with_reducible repeat (first | apply Kd.S_alloc | apply Kd.S_drewN | apply Kd.S_drew)); exact HO201.out) hb); have n2_ := Aside0.mk (Kd.R_below (by (with_reducible repeat (first | apply Kd.R_alloc | apply Kd.R_drewN | apply Kd.R_drew)); exact HO205.out) hb); have n3_ := Aside0.mk (Kd.S_below (by (with_reducible repeat (first | apply Kd.S_alloc | apply Kd.S_drewN | apply Kd.S_drew)); exact HO207.out) hb); have n4_ := Aside0.mk (Kd.S_lower ho0 (below_size (by repeat (first | (with_reducible first | exact HB.out | apply below_alloc | apply pw_below_drewN | apply below_drew1) | exact HB.out)))); have n5_ := Aside0.mk (below_step (by repeat (first | (with_reducible first | exact HB.out | apply below_alloc | apply pw_below_drewN | apply below_drew1) | exact HB.out)) hb); clear HO198; clear HO201; clear HO205; clear HO207; clear HB; have HO198 := n0_; have HO201 := n1_; have HO205 := n2_; have HO207 := n3_; have HO211 := n4_; have HB := n5_; clear n0_ n1_ n2_ n3_ n4_ n5_; (try clear hb); (try clear hb2); (try clear hk); (try clear hi); (try clear ho0)))
  go_ret
  exact ⟨_, by first | rfl | (simp [errW_none, errW_some] <;> rfl) | (simp [*, errW_none, errW_some] <;> rfl), by (with_reducible repeat (first | apply Kd.S_alloc | apply Kd.S_drewN | apply Kd.S_drew)); exact HO211.out, by repeat (first | (with_reducible first | exact HB.out | apply below_alloc | apply pw_below_drewN | apply below_drew1) | exact HB.out)⟩

end Go.Proofs.Ytnebadlakmlkkaa.M
