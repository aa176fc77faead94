/- intern.Table's Id, Len, Text: what they tell, and what they leave. -/
import Derived.Test.YtbhfenpccccloaaH8
namespace Go.Proofs.Ytbhfenpccccloaa.M
open Go.RowKit Go.Proofs Go.Proofs.Ytbhfenpccccloaa.Hand Go.Proofs.YtbhfenpccccloaaW.PrintWords Go.Proofs.YtbhfenpccccloaaW.PrintLast Go.Proofs.YtbhfenpccccloaaW.PrintMore
attribute [local go_sem] Oper.semAt_some
set_option linter.unusedVariables false
set_option linter.unusedSimpArgs false

theorem grown_set (W : World) (a : Addr) (v : Value) : W.grownBy (W.setCell a v) (some a.block) :=
  ⟨rfl, rfl, rfl, (KeepsWalks.setCell W _ v).size, fun k _ hk => Below.heap_setCell _ _ _ k (fun e => hk (by rw [e]))⟩
/-- A struct's three cells, one of them stored anew. -/
theorem blk3_set {W : World} {B : Nat} {a b c : Value} {t : TypeId} (h : W.heap[B]? = some (.cells #[a, b, c] t (0, 0))) (v : Value) :
    (W.setCell ⟨B, 1, none⟩ v).heap[B]? = some (.cells #[a, v, c] t (0, 0)) ∧ (W.setCell ⟨B, 2, none⟩ v).heap[B]? = some (.cells #[a, b, v] t (0, 0)) := by
  have hlt : B < W.heap.size := (Array.getElem?_eq_some_iff.1 h).1
  have hg : W.heap[B] = .cells #[a, b, c] t (0, 0) := by
    rw [Array.getElem?_eq_getElem hlt] at h
    exact Option.some.inj h
  constructor <;> simp [World.setCell, hlt, Array.getElem?_modify, Array.getElem_modify, h, hg]
set_option maxHeartbeats 4000000 in
set_option maxRecDepth 100000 in
theorem add_c (W : World) (B : Nat) (x : Int) (hx0 : 0 ≤ x) (hx : x ≤ 1000000) (hc : W.cell? ⟨B, 2, none⟩ = some (.int .i64 x)) (hf : W.frozen? ⟨B, 2, none⟩ = false) :
    Calls Try.prog 54 #[.pointer (some ⟨B, 2, none⟩), .int .i64 1] W fun e w' => e = .returned (.int .i64 (x + 1)) ∧ w' = W.setCell ⟨B, 2, none⟩ (.int .i64 (x + 1)) := by
  have hadd := add64 W ⟨B, 2, none⟩ x hc hf
  have hw : wrap64 (x + 1) = x + 1 := by unfold wrap64; omega
  rw [hw] at hadd
  go_enter Try.func54, Try.ntmps54
  go_wp2
  go_ret
  exact ⟨rfl, rfl⟩
set_option maxHeartbeats 4000000 in
set_option maxRecDepth 100000 in
theorem ld_c (W : World) (B : Nat) (x : Int) (hc : W.cell? ⟨B, 2, none⟩ = some (.int .i64 x)) :
    Calls Try.prog 55 #[.pointer (some ⟨B, 2, none⟩)] W fun e w' => e = .returned (.int .i64 x) ∧ w' = W := by
  have hld := load64 W ⟨B, 2, none⟩ x hc
  go_enter Try.func55, Try.ntmps55
  go_wp2
  go_ret
  exact ⟨rfl, rfl⟩
set_option maxHeartbeats 4000000 in
set_option maxRecDepth 100000 in
theorem len_c (W : World) (n₀ B Bm : Nat) (v : Value) (xs : List ByteArray) (h : TabW W n₀ B Bm v xs) :
    Calls Try.prog 32 #[.pointer (some ⟨B, 0, none⟩)] W fun e w' => e = .returned (.int .i64 (xs.length : Int)) ∧ w' = W := by
  have hc2 : W.cell? ⟨B, 2, none⟩ = some (.int .i64 (xs.length : Int)) := blk_cell h.1 2
  clear h
  go_enter Try.func32, Try.ntmps32
  go_wp2_with (first | (go_at_call 55; refine (ld_c W B _ hc2).mono ?_; rintro e w1 ⟨rfl, rfl⟩))
  go_ret
  exact ⟨rfl, rfl⟩
set_option maxHeartbeats 4000000 in
set_option maxRecDepth 100000 in
theorem id_old (W : World) (n₀ B Bm : Nat) (v : Value) (xs : List ByteArray) (s : ByteArray) (hs : s.size ≤ 1000000) (hin : s ∈ xs) (h : TabW W n₀ B Bm v xs) :
    Calls Try.prog 31 #[.pointer (some ⟨B, 0, none⟩), .string s] W fun e w' => e = .returned (.int .i64 (ixG xs s : Int)) ∧ w' = W := by
  obtain ⟨hB, hR, ⟨D, hown, hD⟩, hn1, hn2⟩ := h
  have hc0 : W.cell? ⟨B, 0, none⟩ = some (.map (some Bm)) := blk_cell hB 0
  obtain ⟨q1, q2⟩ := hD s
  have q2 := q2 hin
  rw [decide_eq_true hin] at q1
  have Q1 := Aside0.mk q1
  have Q2 := Aside0.mk q2
  have HO := Aside0.mk hown
  have hmax : s.size ≤ maxLen := by unfold maxLen; omega
  clear hB hR hown hD q1 q2 hin
  go_enter Try.func31, Try.ntmps31
  go_wp2_with (first
    | (at_lookup; refine Go.wpList_lookup_own_ok_int _ rfl _ _ 59 rfl 9 3 .i64 law9 Try.underlying59 Try.underlying3 (zero3 _) Bm _ D rfl HO.out _ _ rfl (Go.WideMaps.keyOf_string_mk Try.underlying9 hmax) ?_
       intro c hat hwc
       rw [Q2.out] at hat
       obtain rfl : (ixG xs s : Int) = c := by simpa using hat
       rw [Q1.out]
       clear hat hwc))
  go_ret
  exact ⟨rfl, rfl⟩
end Go.Proofs.Ytbhfenpccccloaa.M
