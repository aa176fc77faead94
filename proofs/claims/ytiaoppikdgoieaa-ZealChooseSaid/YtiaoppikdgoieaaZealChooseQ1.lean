/- Texts of the claim ZealChoose, put together (part 1): Words of this session's own, over the print's words: no function of the program stands in it. Small words for the laws' rows. -/
import Derived.Test.YtiaoppikdgoieaaWMore
namespace Go.Proofs.Ytiaoppikdgoieaa.Hand
open Go.RowKit Go.Proofs.YtiaoppikdgoieaaW.PrintWords Go.Proofs.YtiaoppikdgoieaaW.PrintLast Go.Proofs.YtiaoppikdgoieaaW.PrintMore
set_option linter.unusedVariables false

theorem wrap_nat {i : Nat} (h : i < 9223372036854775807) : wrap64 ((i : Int) + 1) = ((i + 1 : Nat) : Int) := by unfold wrap64; omega
theorem bytes_ext (a b : ByteArray) (h : a.toList = b.toList) : a = b := by
  rw [ByteArray.toList_eq, ByteArray.toList_eq] at h
  cases a; cases b
  simpa [Array.toList_inj] using h
/-- What slices.IndexFunc tells, of a function that tells p. -/
def IdxPost {α : Type} (p : α → Bool) (l : List α) (w : World) (e : Ending) (w' : World) : Prop := ∃ n : Int, e = .returned (.int .i64 n) ∧ decide (0 ≤ n) = l.any p ∧ Drawn0 w w'
theorem any_take_succ {α : Type} (p : α → Bool) (l : List α) (i : Nat) (x : α) (h : l[i]? = some x) (h0 : (l.take i).any p = false) (hx : p x = false) : (l.take (i + 1)).any p = false := by
  rw [List.take_add_one, h]; simp [h0, hx]
theorem any_found {α : Type} (p : α → Bool) (l : List α) (i : Nat) (x : α) (h : l[i]? = some x) (hx : p x = true) : l.any p = true :=
  List.any_eq_true.2 ⟨x, List.mem_of_getElem? h, hx⟩
theorem take_snoc {α : Type} (l : List α) (i : Nat) (x : α) (h : l[i]? = some x) : l.take (i + 1) = l.take i ++ [x] := by
  rw [List.take_add_one, h]; rfl

/-- A block of one cell stands in a later world, too. -/
theorem blk_later {w w1 : World} {g : Nat} {o : Obj} (h : w.heap[g]? = some o) (hb : Below w.heap.size w w1) : w1.heap[g]? = some o := (hb.block g (blk_lt h)).trans h
theorem cell_later {w w1 : World} {g : Nat} {v : Value} {t : TypeId} (h : w.heap[g]? = some (.cells #[v] t (0, 0))) (hb : Below w.heap.size w w1) : w1.cell? ⟨g, 0, none⟩ = some v := blk_cell (blk_later h hb) 0
theorem cell_new (w : World) (v : Value) (t : TypeId) : (w.alloc (.cells #[v] t)).cell? ⟨w.heap.size, 0, none⟩ = some v := blk_cell (Go.heap_alloc_new w _) 0

/-- An element that is a row, of a row that is read. -/
theorem C_row {α : Type} {d : Kd α} {e : Nat} {w : World} {A : Option Addr} {n : Nat} {xs : List (List α)} (h : Kd.C (Kd.slice e d) w A n xs) (i : Nat) (x : List α) (hx : xs[i]? = some x) :
    ∃ ad A0 c0, A = some ad ∧ w.cell? (ad.add i) = some (.slice A0 x.length c0) ∧ x.length ≤ c0 ∧ d.C w A0 x.length x := by
  have hi : i < xs.length := (List.getElem?_eq_some_iff.1 hx).1
  obtain ⟨ad, c, e, _, hK, hc0⟩ := Kd.C_get h ([] : List α) (i : Int) (by omega) (by have := h.1; omega)
  have hc : ∀ j u, c[j]? = some u → w.cell? (ad.add (i * 1 + j)) = some u := hc0
  rw [Int.toNat_natCast, List.getD_eq_getElem?_getD, hx] at hK
  obtain ⟨A0, c0, rfl, l0, g0⟩ := hK
  exact ⟨ad, A0, c0, e, by have hq := hc 0 _ rfl; rwa [Nat.mul_one, Nat.add_zero] at hq, l0, g0⟩
theorem C_str {w : World} {A : Option Addr} {n : Nat} {xs : List ByteArray} (h : Kd.C Kd.string w A n xs) (i : Nat) (x : ByteArray) (hx : xs[i]? = some x) :
    ∃ ad, A = some ad ∧ w.cell? (ad.add i) = some (.string x) := by
  have hi : i < xs.length := (List.getElem?_eq_some_iff.1 hx).1
  obtain ⟨ad, e, hc⟩ := Kd.at_string h (i : Int) (by omega) (by have := h.1; omega)
  rw [Int.toNat_natCast, rdOf, Int.toNat_natCast, List.getD_eq_getElem?_getD, hx] at hc
  exact ⟨ad, e, hc⟩
/-- The same of a row that is told with what it leads to. -/
theorem V_row {α : Type} {d : Kd α} {e e' base : Nat} {W : World} {ok : Nat → Prop} {A : Option Addr} {n c : Nat} {xs : List (List α)} (h : Kd.V (Kd.slice e d) e' W base ok (.slice A n c) xs) (i : Nat) (x : List α) (hx : xs[i]? = some x) :
    ∃ ad A0 c0, A = some ad ∧ W.cell? (ad.add i) = some (.slice A0 x.length c0) ∧ x.length ≤ c0 ∧ d.C W A0 x.length x ∧ Kd.F d W ok A0 x.length x := by
  have hi : i < xs.length := (List.getElem?_eq_some_iff.1 hx).1
  obtain ⟨hn, _, hC⟩ := Kd.V_reads' h
  obtain ⟨ad, A2, c2, rfl, hx2, hl, hi2⟩ := C_row hC i x hx
  obtain ⟨ce, hce, hMe, hcc⟩ := Kd.V_get h [] (i : Int) (by omega) (by omega)
  rw [Int.toNat_natCast, List.getD_eq_getElem?_getD, hx] at hMe
  obtain ⟨ua, uc, rfl, ul, ge⟩ := Kd.FK_slice_open hMe
  have hv := hcc 0 _ rfl
  rw [Nat.add_zero, show ((Kd.slice e d)).sz = 1 from rfl, Nat.mul_one, Int.toNat_natCast] at hv
  replace hv := Option.some.inj (hv.symm.trans hx2)
  injection hv with hva hvn hvc
  subst hva hvc
  exact ⟨ad, ua, uc, rfl, hx2, hl, hi2, ge⟩

/-! Short names for the print's words, so that a long printed text fits into a file. -/
theorem am {p : Prop} (h : p) : Aside0 p := ⟨h⟩
theorem bA {w W : World} (h : Below w.heap.size w W) (o : Obj) : Below w.heap.size w (W.alloc o) := below_alloc h o
theorem bN {B : Nat} {w W : World} (h : Below B w W) (n : Nat) : Below B w (W.drewN n) := pw_below_drewN h n
theorem bD {B : Nat} {w W : World} (h : Below B w W) : Below B w W.drew := below_drew h
section
variable {α : Type} {d : Kd α} {e base : Nat} {w : World} {ok : Nat → Prop} {v : Value} {xs : List α}
theorem rA (h : d.R e w base ok v xs) (o : Obj) : d.R e (w.alloc o) base ok v xs := Kd.R_alloc h o
theorem rN (h : d.R e w base ok v xs) (n : Nat) : d.R e (w.drewN n) base ok v xs := Kd.R_drewN h n
theorem rD (h : d.R e w base ok v xs) : d.R e w.drew base ok v xs := Kd.R_drew h
theorem nA (h : Kd.N d e w base ok v xs) (o : Obj) : Kd.N d e (w.alloc o) base ok v xs := Kd.N_alloc h o
theorem nN (h : Kd.N d e w base ok v xs) (n : Nat) : Kd.N d e (w.drewN n) base ok v xs := Kd.N_drewN h n
theorem nD (h : Kd.N d e w base ok v xs) : Kd.N d e w.drew base ok v xs := Kd.N_drew h
theorem vA (h : Kd.V d e w base ok v xs) (o : Obj) : Kd.V d e (w.alloc o) base ok v xs := Kd.V_alloc h o
theorem vN (h : Kd.V d e w base ok v xs) (n : Nat) : Kd.V d e (w.drewN n) base ok v xs := Kd.V_drewN h n
theorem vD (h : Kd.V d e w base ok v xs) : Kd.V d e w.drew base ok v xs := Kd.V_drew h
end

section
variable {P : Program} {ops : Array Oper} {Q : Exit → Act → World → Prop}
/-- A call of a function value that lies in a slot, in a region that draws its order. -/
theorem goesT_ {oi : Oper} {N : Option Tmp} {a : Act} {w : World} {K : Act → World → Prop} {f : FuncId} {fn : Func} {s : Operand} {as : Array Operand} {ts : Array TypeId} (caps all : Array Value) (hf : P.funcs[f]? = some fn) (hname : (fn.name == "runtime.NumGoroutine") = false) (hb : fn.body.isSome = true) (args : Array Value) (hall : args ++ caps = all)
    (hw : Region.wanted oi (yielded ops a.tmps) = true) (hN : oi.dst = N) (hop : oi.op = .call { callee := .value s, args := as, argTypes := ts }) (hs : a.eval s = .func (.func f) #[] caps) (hargs : as.map a.eval = args)
    (h : Calls P f all w fun e w' => ∃ v, e = .returned v ∧ K (a.put N v) w') : if Region.wanted oi (yielded ops a.tmps) = true then Oper.wp P oi a w K Q else K (a.put N undef) w := by
  subst hall
  refine call_ f (args ++ caps) hw hN ?_ h
  have he := enters_ hf hname hb (args ++ caps) w
  unfold execOp
  simp [hop, hs, resolve, Deferred.ofValue, invoke, hargs, he]
end
end Go.Proofs.Ytiaoppikdgoieaa.Hand
namespace Go.Proofs.Ytiaoppikdgoieaa.Hand
theorem slice_cells {a A : Option Addr} {len cap n c : Nat} (h : (Value.slice a len cap).cells.toList = [.slice A n c]) : a = A ∧ len = n ∧ cap = c := by
  simpa [Value.cells] using h
theorem int_cells {k : IntKind} {x y : Int} (h : (Value.int k x).cells.toList = [.int k y]) : y = x := by
  simp [Value.cells] at h; exact h.symm
theorem str_cells {x y : ByteArray} (h : (Value.string x).cells.toList = [.string y]) : y = x := by
  simp [Value.cells] at h; exact h.symm
theorem agg_cells {xs : Array Value} {l : List Value} (h : (Value.agg xs).cells.toList = l) : xs = l.toArray := by
  have : xs.toList = l := h
  rw [← this]
end Go.Proofs.Ytiaoppikdgoieaa.Hand
