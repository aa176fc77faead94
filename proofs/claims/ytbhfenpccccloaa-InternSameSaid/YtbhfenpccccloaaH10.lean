/- intern.Table's Id of a new text, and Id in one; Text. -/
import Derived.Test.YtbhfenpccccloaaH9
namespace Go.Proofs.Ytbhfenpccccloaa.M
open Go.RowKit Go.Proofs Go.Proofs.Ytbhfenpccccloaa.Hand Go.Proofs.YtbhfenpccccloaaW.PrintWords Go.Proofs.YtbhfenpccccloaaW.PrintLast Go.Proofs.YtbhfenpccccloaaW.PrintMore
attribute [local go_sem] Oper.semAt_some
set_option linter.unusedVariables false
set_option linter.unusedSimpArgs false

theorem app1h {ops : Array Oper} {rest : List Oper} {op : Oper} {a : Act} {Q : Exit → Act → World → Prop} (hgd : op.guard = none) (s x : Operand) (hop : op.op = .call { callee := .builtin .append, args := #[s, x], argTypes := #[22, 22] })
    (W : World) (n₀ : Nat) (v : Value) (xs : List ByteArray) (p : ByteArray) (hs : a.eval s = v) (hx : a.eval x = .slice (some ⟨W.heap.size, 0, none⟩) 1 1) (HO : Kd.R Kd.string 9 W n₀ (fun _ => True) v xs) (hn : n₀ ≤ W.heap.size) (hl : xs.length ≤ 1000000)
    (h : ∀ v1 w1, Kd.R Kd.string 9 w1 n₀ (fun _ => True) v1 (xs ++ [p]) → Below n₀ W w1 → W.grownBy w1 v.ownBlock → (v1.ownBlock = v.ownBlock ∨ ∃ b, v1.ownBlock = some b ∧ W.heap.size ≤ b) → wpList Try.prog ops Q rest (a.put op.dst v1) w1) :
    wpList Try.prog ops Q (op :: rest) a (W.alloc (.cells #[.string p] 9)) :=
  Kd.R_append Kd.string (w0 := W) n₀ hgd s x 22 9 (.string ⟨#[]⟩) 16 hop Try.underlying22 info9 rfl (by decide) (by omega) v xs p [.string p] (fun _ => True) (fun _ => False) hs hx rfl (fun _ hk => hk.elim) (fun _ _ => trivial) HO (Below.refl _ _) hn (by omega) h
theorem map_ne {W : World} {B Bm n : Nat} {cs : Array Value} {t : TypeId} {D : DataW Unit} (h : W.ownsMap Try.prog 9 (plainElem Try.prog 3) Bm n D) (hB : W.heap[B]? = some (.cells cs t (0, 0))) : Bm ≠ B := by
  rintro rfl
  obtain ⟨es, clock, hb, _⟩ := h
  rw [hb] at hB; cases hB
theorem map_row {W : World} {n₀ Bm n : Nat} {v : Value} {xs : List ByteArray} {D : DataW Unit} (h : W.ownsMap Try.prog 9 (plainElem Try.prog 3) Bm n D) (hR : Kd.R Kd.string 9 W n₀ (fun _ => True) v xs) : some Bm ≠ v.ownBlock := by
  intro e
  obtain ⟨cells, hc⟩ := Kd.R_typed hR Bm e.symm
  exact map_ne h hc rfl

set_option maxHeartbeats 8000000 in
set_option maxRecDepth 100000 in
theorem id_new (W : World) (n₀ B Bm : Nat) (v : Value) (xs : List ByteArray) (s : ByteArray) (hs : s.size ≤ 1000000) (hlen : xs.length ≤ 1000000) (hin : s ∉ xs) (hn₀ : n₀ ≤ W.heap.size) (h : TabW W n₀ B Bm v xs) :
    Calls Try.prog 31 #[.pointer (some ⟨B, 0, none⟩), .string s] W fun e w' => e = .returned (.int .i64 (xs.length : Int)) ∧ (∃ v', TabW w' n₀ B Bm v' (xs ++ [s]) ∧ (v'.ownBlock = v.ownBlock ∨ ∃ b, v'.ownBlock = some b ∧ W.heap.size ≤ b)) ∧ KeepT W w' B Bm v ∧ Below n₀ W w' := by
  obtain ⟨hB, hR, ⟨D, hown, hD⟩, hn1, hn2⟩ := h
  obtain ⟨A, c, rfl⟩ := Kd.R_slice hR
  have hc0 : W.cell? ⟨B, 0, none⟩ = some (.map (some Bm)) := blk_cell hB 0
  have hc2 : W.cell? ⟨B, 2, none⟩ = some (.int .i64 (xs.length : Int)) := blk_cell hB 2
  have hf2 : W.frozen? ⟨B, 2, none⟩ = false := blk_frozen hB 2
  obtain ⟨q1, _⟩ := hD s
  rw [decide_eq_false hin] at q1
  have Q1 := Aside0.mk q1
  have hmax : s.size ≤ maxLen := by unfold maxLen; omega
  have hmb : Bm ≠ B := map_ne hown hB
  have hrB : some B ≠ (Value.slice A xs.length c).ownBlock := Kd.R_ne hR hB (by decide)
  have hrM : some Bm ≠ (Value.slice A xs.length c).ownBlock := map_row hown hR
  -- behind the counter's step
  obtain ⟨W1, hW1⟩ : ∃ W1, W.setCell ⟨B, 2, none⟩ (.int .i64 ((xs.length : Int) + 1)) = W1 := ⟨_, rfl⟩
  have g1 : W.grownBy W1 (some B) := by rw [← hW1]; exact grown_set W ⟨B, 2, none⟩ _
  have hB1 : W1.heap[B]? = some (.cells #[.map (some Bm), .slice A xs.length c, .int .i64 ((xs.length : Int) + 1)] 66 (0, 0)) := by rw [← hW1]; exact (blk3_set hB _).2
  have hown1 := hown.kept g1 (by simpa using hmb)
  have hR1 := Kd.R_grown1 hR rfl g1 hrB
  have hsz1 := g1.size
  have hd0 : W1.cell? ⟨B, 0, none⟩ = some (.map (some Bm)) := blk_cell hB1 0
  have hwf : (Lit.int .i64 (xs.length : Int)).wf = true := by simp [Lit.wf, IntKind.min, IntKind.max, IntKind.signed, IntKind.bits]; omega
  have OW0 := Aside0.mk hown
  have OW1 := Aside0.mk hown1
  have G1 := Aside0.mk g1
  have HB1 := Aside0.mk hB1
  have HR1 := Aside0.mk hR1
  have HD := Aside0.mk hD
  have HI := Aside0.mk hin
  have HRB := Aside0.mk hrB
  have HRM := Aside0.mk hrM
  have HMB := Aside0.mk hmb
  have HADD := Aside0.mk (add_c W B (xs.length : Int) (by omega) (by omega) hc2 hf2)
  rw [hW1] at HADD
  have HW := Aside0.mk hn₀
  have HSZ := Aside0.mk hsz1
  clear hown1 g1 hB1 hR1 hD hin hrB hrM hmb hB hR hown q1 hc2 hf2 hW1 hn₀ hsz1
  go_enter Try.func31, Try.ntmps31
  go_wp2_with (first
    | (at_lookup; refine Go.wpList_lookup_own_ok_int _ rfl _ _ 59 rfl 9 3 .i64 law9 Try.underlying59 Try.underlying3 (zero3 _) Bm _ D rfl OW0.out _ _ rfl (Go.WideMaps.keyOf_string_mk Try.underlying9 hmax) ?_
       intro c' hat hwc
       rw [Q1.out]
       clear hat hwc)
    | (go_at_call 54; refine HADD.out.mono ?_; rintro e w1 ⟨rfl, rfl⟩)
    | (at_mapUpdate; refine (wpList_mapUpdate_own _ rfl _ _ _ 59 rfl 9 3 law9 Try.underlying59 _ Bm xs.length D rfl OW1.out (by unfold maxLen; omega) _ _ _ rfl rfl (Go.WideMaps.keyOf_string_mk Try.underlying9 hmax) _ [] (plainElem_int Try.underlying3 hwf) ?_)
       intro w2 hown2 hg2
       have hB2 := (hg2.block B (blk_lt HB1.out) (by simpa using HMB.out.symm)).trans HB1.out
       have hR2 := Kd.R_grown1 HR1.out rfl hg2 HRM.out
       have hd1 := blk_cell hB2 1
       have OW2 := Aside0.mk hown2
       have G2 := Aside0.mk hg2
       have HB2 := Aside0.mk hB2
       have HR2 := Aside0.mk hR2
       clear hown2 hg2 hB2 hR2)
    | (at_builtin; refine (app1h rfl (.tmp 35) (.tmp 37) rfl w2 n₀ _ xs s rfl rfl HR2.out (Nat.le_trans HW.out (Nat.le_trans HSZ.out G2.out.size)) hlen ?_)
       intro v1 w3 hR3 hBl3 hg3 hat3
       obtain ⟨A1, k1, rfl⟩ := Kd.R_slice hR3
       have hB3 := (hg3.block B (blk_lt HB2.out) HRB.out).trans HB2.out
       have hc3 := blk_cell hB3 1
       have hf3 := blk_frozen hB3 1
       have OW3 := Aside0.mk (OW2.out.kept hg3 HRM.out)
       have R3 := Aside0.mk hR3
       have L3 := Aside0.mk hBl3
       have G3 := Aside0.mk hg3
       have T3 := Aside0.mk hat3
       have HB3 := Aside0.mk hB3
       clear hR3 hBl3 hg3 hat3 hB3))
  go_ret
  have hs1 : W.heap.size ≤ w1.heap.size := HSZ.out
  have hs2 : w1.heap.size ≤ w2.heap.size := G2.out.size
  have hs3 : w2.heap.size ≤ w3.heap.size := G3.out.size
  have T := T3.out
  have R := Kd.R_grown1 R3.out rfl (grown_set w3 ⟨B, 1, none⟩ (.slice A1 (xs.length + 1) k1)) (Kd.R_ne R3.out HB3.out (by decide))
  rw [List.length_append] at R T
  have b1 : Below n₀ W w1 := (Below.refl n₀ W).grown G1.out HW.out (fun j hj => by injection hj with hj; rw [← hj]; exact hn1)
  have b2 : Below n₀ W w2 := b1.grown G2.out (by have := HW.out; omega) (fun j hj => by injection hj with hj; rw [← hj]; exact hn2)
  refine ⟨rfl, ⟨.slice A1 (xs.length + 1) k1, ⟨?_, R, ⟨_, ?_, idxD_put (World.ownsMap.isMap OW0.out) HD.out s HI.out⟩, hn1, hn2⟩, ?_⟩, ?_, ?_⟩
  · rw [show (((xs ++ [s]).length : Nat) : Int) = (xs.length : Int) + 1 from by simp]
    exact (blk3_set HB3.out _).1
  · rw [List.length_append]
    exact OW3.out.kept (grown_set w3 ⟨B, 1, none⟩ _) (by simpa using HMB.out)
  · rcases T with e | ⟨b, e, hb⟩
    · exact .inl e
    · exact .inr ⟨b, e, by omega⟩
  · intro k hk h1 h2 h3
    refine (Below.heap_setCell w3 ⟨B, 1, none⟩ _ k h1).trans ((G3.out.block k (by omega) h3).trans ((G2.out.block k (by omega) (by simpa using h2)).trans (G1.out.block k hk (by simpa using h1))))
  · exact (b2.trans L3.out).setCell (p := ⟨B, 1, none⟩) (by show n₀ ≤ B; exact hn1) _
/-- Id: the text's number; and the table then. -/
theorem id_c (W : World) (n₀ B Bm : Nat) (v : Value) (xs : List ByteArray) (s : ByteArray) (hs : s.size ≤ 1000000) (hlen : xs.length ≤ 1000000) (hn₀ : n₀ ≤ W.heap.size) (h : TabW W n₀ B Bm v xs) :
    Calls Try.prog 31 #[.pointer (some ⟨B, 0, none⟩), .string s] W fun e w' => e = .returned (.int .i64 (ixG xs s : Int)) ∧ (∃ v', TabW w' n₀ B Bm v' (addG xs s) ∧ (v'.ownBlock = v.ownBlock ∨ ∃ b, v'.ownBlock = some b ∧ W.heap.size ≤ b)) ∧ KeepT W w' B Bm v ∧ Below n₀ W w' := by
  by_cases hin : s ∈ xs
  · refine (id_old W n₀ B Bm v xs s hs hin h).mono ?_
    rintro e w' ⟨rfl, rfl⟩
    refine ⟨rfl, ⟨v, by unfold addG; rw [if_pos hin]; exact h, .inl rfl⟩, fun k _ _ _ _ => rfl, Below.refl _ _⟩
  · refine (id_new W n₀ B Bm v xs s hs hlen hin hn₀ h).mono ?_
    rintro e w' ⟨rfl, hv, hk, hb⟩
    refine ⟨by rw [ixG_len xs s hin], by unfold addG; rw [if_neg hin]; exact hv, hk, hb⟩

set_option maxHeartbeats 8000000 in
set_option maxRecDepth 100000 in
/-- Text: the text of a number, or none. -/
theorem text_c (W : World) (n₀ B Bm : Nat) (v : Value) (xs : List ByteArray) (i : Int) (h : TabW W n₀ B Bm v xs) :
    Calls Try.prog 33 #[.pointer (some ⟨B, 0, none⟩), .int .i64 i] W fun e w' => e = .returned (.string (if 0 ≤ i ∧ i < xs.length then rdOf ByteArray.empty xs i else ByteArray.empty)) ∧ w' = W := by
  obtain ⟨hB, hR, _, _, _⟩ := h
  obtain ⟨A, c, rfl⟩ := Kd.R_slice hR
  have hc1 : W.cell? ⟨B, 1, none⟩ = some (.slice A xs.length c) := blk_cell hB 1
  have HR := Aside0.mk hR
  clear hB hR
  by_cases h0 : 0 ≤ i
  · by_cases h1 : i < xs.length
    · obtain ⟨ad, rfl, hx⟩ := C_str (Kd.R_reads' HR.out).2.2 i.toNat (rdOf ByteArray.empty xs i) (by
        have hlt : i.toNat < xs.length := by omega
        show xs[i.toNat]? = some (xs.getD i.toNat ByteArray.empty)
        rw [List.getD_eq_getElem?_getD, List.getElem?_eq_getElem hlt]; rfl)
      rw [if_pos ⟨h0, h1⟩]
      go_enter Try.func33, Try.ntmps33
      go_wp2
      go_ret
      exact ⟨rfl, rfl⟩
    · rw [if_neg (fun h => h1 h.2)]
      go_enter Try.func33, Try.ntmps33
      go_wp2
      go_ret
      exact ⟨rfl, rfl⟩
  · rw [if_neg (fun h => h0 h.1)]
    go_enter Try.func33, Try.ntmps33
    go_wp2
    go_ret
    exact ⟨rfl, rfl⟩
end Go.Proofs.Ytbhfenpccccloaa.M
