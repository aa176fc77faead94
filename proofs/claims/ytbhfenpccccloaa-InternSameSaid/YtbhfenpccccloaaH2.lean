/- flags.table, flags.Known, flags.Does: what they compute, and that the machine's calls do so. -/
import Derived.Maps.OwnSet
import Derived.Maps.OwnOps
import Derived.Carry
import Derived.Test.YtbhfenpccccloaaHand
import Derived.Test.YtbhfenpccccloaaF0
namespace Go.Proofs.Ytbhfenpccccloaa.M
open Go.RowKit Go.Maps Go.Proofs Go.Proofs.Ytbhfenpccccloaa.Hand Go.Proofs.YtbhfenpccccloaaW.PrintWords Go.Proofs.YtbhfenpccccloaaW.PrintLast Go.Proofs.YtbhfenpccccloaaW.PrintMore
attribute [local go_sem] Oper.semAt_some
set_option linter.unusedVariables false
set_option linter.unusedSimpArgs false

theorem lawB : Keyed Try.prog 5 := int_keyed Try.underlying5
theorem wfB {a : Int} (h0 : 0 ≤ a) (h : a ≤ 255) : (Lit.int .u8 a).wf = true := by
  simp [Lit.wf, IntKind.min, IntKind.max, IntKind.signed, IntKind.bits]; omega
def pairD (a b : Int) : DataW Unit := .agg [.lit (.int .i64 a), .lit (.int .i64 b)]
def pairElem : Value → Option (DataW Unit × List MemPlace)
  | .agg ⟨[.int .i64 a, .int .i64 b]⟩ => some (pairD a b, [])
  | _ => none
theorem pairElem_inv {v : Value} {z : DataW Unit × List MemPlace} (h : pairElem v = some z) : ∃ a b, v = .agg #[.int .i64 a, .int .i64 b] ∧ z = (pairD a b, []) := by
  unfold pairElem at h
  split at h
  · rename_i a b
    exact ⟨a, b, rfl, (Option.some.inj h).symm⟩
  · cases h
theorem wpList_insert_own {H : Type} {P : Program} (w : World) {ops : Array Oper} {rest : List Oper} {o : Oper} {a : Act} {Q : Exit → Act → World → Prop}
    (hg : o.guard = none) (m x v : Operand) (t : TypeId) (hop : o.op = Op.insert t m x v)
    (k e : TypeId) (K : Keyed P k) (ht : P.underlying t = some (.map k e)) (R : Value → Option (DataW H × List MemPlace)) (b n : Nat) (D : DataW H)
    (hm : a.eval m = .map (some b)) (hown : w.ownsMap P k R b n D) (hn : n < maxLen) (key val : Value) (kl : Lit) (hx : a.eval x = key) (hv : a.eval v = val) (hkey : keyOf P k key = some kl)
    (d : DataW H) (ps : List MemPlace) (hval : R val = some (d, ps))
    (hK : ∀ w', w'.ownsMap P k R b (n + 1) (D.put kl d) → w.grownBy w' (some b) → wpList P ops Q rest (a.put o.dst undef) w') :
    wpList P ops Q (o :: rest) a w := by
  refine wpList_plain hg fun K' hK' => ?_
  obtain ⟨w', hrun, r1, r2⟩ := hown.update K ht hn hkey hval
  unfold Oper.wp
  simp [execOp, hop, hm, hx, hv, hrun, Result.andThen]
  exact hK' _ _ (hK w' r1 r2)
theorem wpList_lookup_own {H : Type} {P : Program} (w : World) {ops : Array Oper} {rest : List Oper} {o : Oper} {a : Act} {Q : Exit → Act → World → Prop}
    (hg : o.guard = none) (m x : Operand) (t : TypeId) (hop : o.op = Op.lookup t m x false)
    (k e : TypeId) (K : Keyed P k) (ht : P.underlying t = some (.map k e)) (R : Value → Option (DataW H × List MemPlace)) {z : Value} (hz : (zeroValue e).run P w = .ok z w) (zd : DataW H) (zp : List MemPlace) (hzd : R z = some (zd, zp)) (b n : Nat) (D : DataW H)
    (hm : a.eval m = .map (some b)) (hown : w.ownsMap P k R b n D) (key : Value) (kl : Lit) (hx : a.eval x = key) (hkey : keyOf P k key = some kl)
    (hK : ∀ v ps, R v = some (D.atKey kl zd, ps) → wpList P ops Q rest (a.put o.dst v) w) :
    wpList P ops Q (o :: rest) a w := by
  refine wpList_plain hg fun K' hK' => ?_
  obtain ⟨v, ps, hrun, hv⟩ := hown.lookup K ht hz hzd hkey
  unfold Oper.wp
  simp [execOp, hop, hm, hx, hrun, Result.andThen]
  exact hK' _ _ (hK v ps hv)
def D6 : DataW Unit := ((((((DataW.map []).put (.int .u8 101) (pairD 1 1)).put (.int .u8 120) (pairD 0 1)).put (.int .u8 51) (pairD 1 0)).put (.int .u8 69) (pairD 1 2)).put (.int .u8 88) (pairD 0 2)).put (.int .u8 65) (pairD 1 3)
theorem grown_below {w W W' : World} (hB : Below w.heap.size w W) (hg : W.grownBy W' (some w.heap.size)) : Below w.heap.size w W' := hB.grown hg hB.size (fun j hj => by cases hj; exact Nat.le_refl _)

set_option maxHeartbeats 4000000 in
set_option maxRecDepth 100000 in
theorem table_c (w : World) : Calls Try.prog 57 #[] w fun e w' => e = .returned (.map (some w.heap.size)) ∧ w'.ownsMap Try.prog 5 pairElem w.heap.size 6 D6 ∧ Below w.heap.size w w' := by
  have hmm := @run_makeMap Try.prog
  go_enter Try.func57, Try.ntmps57
  have h0 := World.ownsMap_made w Try.prog 5 pairElem
  have b0 : Below w.heap.size w (w.alloc (.map #[] 0)) := (Below.refl _ _).alloc (Nat.le_refl _) _
  go_wp2_with (first
    | (refine wpList_insert_own _ rfl _ _ _ 72 rfl 5 70 lawB Try.underlying72 pairElem _ _ _ rfl (by assumption) (by unfold maxLen; omega) _ _ _ rfl rfl (keyOf_int_mk Try.underlying5 (wfB (by omega) (by omega))) _ [] rfl ?_
       intro w1 h1 g1
       have b1 := grown_below (by assumption) g1
       clear g1))
  go_ret
  exact ⟨rfl, by assumption, by assumption⟩

/-- What the table has for a flag. -/
def rowOf (a : Int) : Int × Int := if a = 101 then (1, 1) else if a = 120 then (0, 1) else if a = 51 then (1, 0) else if a = 69 then (1, 2) else if a = 88 then (0, 2) else if a = 65 then (1, 3) else (0, 0)
def knownG (a : Int) : Bool := decide (a = 101 ∨ a = 120 ∨ a = 51 ∨ a = 69 ∨ a = 88 ∨ a = 65)
def doesG (a k : Int) : Int := if k = 2 then (rowOf a).1 else if k = 4 then (rowOf a).2 else 0
theorem D6_eq : D6 = .map [(.int .u8 51, pairD 1 0), (.int .u8 65, pairD 1 3), (.int .u8 69, pairD 1 2), (.int .u8 88, pairD 0 2), (.int .u8 101, pairD 1 1), (.int .u8 120, pairD 0 1)] := by
  simp [D6, DataW.put, DataW.insert, Lit.sameKey, Lit.before]
theorem has_D6 (a : Int) : Maps.has D6 (.int .u8 a) = knownG a := by
  rw [D6_eq]
  simp only [Maps.has, List.any_cons, List.any_nil, Lit.sameKey, knownG, true_and]
  rw [Bool.eq_iff_iff]
  simp
  omega
theorem at_D6 (a : Int) : D6.atKey (.int .u8 a) (pairD 0 0) = pairD (rowOf a).1 (rowOf a).2 := by
  rw [D6_eq]
  unfold rowOf
  by_cases h1 : a = 101
  · subst h1; rfl
  by_cases h2 : a = 120
  · subst h2; rfl
  by_cases h3 : a = 51
  · subst h3; rfl
  by_cases h4 : a = 69
  · subst h4; rfl
  by_cases h5 : a = 88
  · subst h5; rfl
  by_cases h6 : a = 65
  · subst h6; rfl
  have g1 : ¬ 101 = a := fun e => h1 e.symm
  have g2 : ¬ 120 = a := fun e => h2 e.symm
  have g3 : ¬ 51 = a := fun e => h3 e.symm
  have g4 : ¬ 69 = a := fun e => h4 e.symm
  have g5 : ¬ 88 = a := fun e => h5 e.symm
  have g6 : ¬ 65 = a := fun e => h6 e.symm
  simp [DataW.atKey, Lit.sameKey, g1, g2, g3, g4, g5, g6, h1, h2, h3, h4, h5, h6]
theorem zero70 (w : World) : (zeroValue 70).run Try.prog w = .ok (.agg #[.int .i64 0, .int .i64 0]) w := by kernel_rfl
theorem pairD_inj {a b c d : Int} (h : pairD a b = pairD c d) : a = c ∧ b = d := by
  simpa [pairD] using h
def flags_Known.f (k : Nat) (a0 : Int) : Option Bool := if 0 ≤ a0 ∧ a0 ≤ 255 then some (knownG a0) else none
theorem flags_Known.mono : ∀ a0 k, LeO (flags_Known.f k a0) (flags_Known.f (k + 1) a0) := fun _ _ => LeO.refl _
def flags_Does.f (k : Nat) (a0 a1 : Int) : Option Int := if 0 ≤ a0 ∧ a0 ≤ 255 then some (doesG a0 a1) else none
theorem flags_Does.mono : ∀ a0 a1 k, LeO (flags_Does.f k a0 a1) (flags_Does.f (k + 1) a0 a1) := fun _ _ _ => LeO.refl _

set_option maxHeartbeats 4000000 in
set_option maxRecDepth 100000 in
theorem flags_Known.calls (k : Nat) (a0 : Int) (r : Bool) (w : World) (h : flags_Known.f k a0 = some r) :
    Calls Try.prog 42 #[.int .u8 a0] w fun e w' => e = .returned (.bool r) ∧ Below w.heap.size w w' := by
  unfold flags_Known.f at h
  split at h
  case isFalse => cases h
  case isTrue hr =>
  obtain rfl := Option.some.inj h
  clear h
  go_enter Try.func42, Try.ntmps42
  go_wp2_with (first
    | (go_at_call 57; refine (table_c _).mono ?_; rintro e w1 ⟨rfl, hown, hb⟩)
    | (at_lookup; refine wpList_lookup_own_ok _ rfl _ _ 72 rfl 5 70 lawB Try.underlying72 pairElem (zero70 _) (pairD 0 0) [] rfl _ 6 _ rfl hown _ _ rfl (keyOf_int_mk Try.underlying5 (wfB hr.1 hr.2)) ?_
       intro v ps hv
       obtain ⟨a, b, rfl, hz⟩ := pairElem_inv hv
       rw [has_D6]))
  go_ret
  exact ⟨rfl, below_alloc hb _⟩

set_option maxHeartbeats 4000000 in
set_option maxRecDepth 100000 in
theorem flags_Does.calls (k : Nat) (a0 a1 : Int) (r : Int) (w : World) (h : flags_Does.f k a0 a1 = some r) :
    Calls Try.prog 44 #[.int .u8 a0, .int .i64 a1] w fun e w' => e = .returned (.int .i64 r) ∧ Below w.heap.size w w' := by
  unfold flags_Does.f at h
  split at h
  case isFalse => cases h
  case isTrue hr =>
  obtain rfl := Option.some.inj h
  clear h
  go_enter Try.func44, Try.ntmps44
  go_wp2_with (first
    | (go_at_call 57; refine (table_c _).mono ?_; rintro e w1 ⟨rfl, hown, hb⟩)
    | (at_lookup; refine wpList_lookup_own _ rfl _ _ 72 rfl 5 70 lawB Try.underlying72 pairElem (zero70 _) (pairD 0 0) [] rfl _ 6 _ rfl hown _ _ rfl (keyOf_int_mk Try.underlying5 (wfB hr.1 hr.2)) ?_
       intro v ps hv
       obtain ⟨a, b, rfl, hz⟩ := pairElem_inv hv
       obtain ⟨rfl, rfl⟩ := pairD_inj ((at_D6 a0).symm.trans (Prod.mk.inj hz).1)
       clear hz hv))
  all_goals go_ret
  all_goals
    rename_i hq
    refine ⟨?_, below_alloc hb _⟩
    unfold doesG
    simp_all
end Go.Proofs.Ytbhfenpccccloaa.M
