/- dots.Block: what the code gives, as a Lean function, and that the machine's call does what it says. -/
import Derived.Test.YtbhfenpccccloaaH1
namespace Go.Proofs.Ytbhfenpccccloaa.M
open Go.RowKit Go.Proofs.YtbhfenpccccloaaW.PrintWords Go.Proofs.YtbhfenpccccloaaW.PrintLast Go.Proofs.YtbhfenpccccloaaW.PrintMore Go.Proofs.Ytbhfenpccccloaa.Hand
set_option linter.unusedVariables false

def dots_Block.f (k : Nat) (l0 : List ByteArray) : Option (List ByteArray × Bool) := if (l0.all fun s => decide (s.size + 1 ≤ 9223372036854775807)) = true ∧ l0.length ≤ 8796093022207 then some (l0.map blk ++ [(⟨#[46, 10]⟩ : ByteArray)], l0.any dotB) else none
theorem dots_Block.mono : ∀ a0 k, LeO (dots_Block.f k a0) (dots_Block.f (k + 1) a0) := fun _ _ => LeO.refl _
set_option maxHeartbeats 1000000 in
set_option maxRecDepth 100000 in
theorem dots_Block.calls (k : Nat) (A0 : Option Addr) (c0 : Nat) (l0 : List ByteArray) (r1 : List ByteArray) (r2 : Bool) (w : World) (hr0 : Kd.C Kd.string w A0 l0.length l0) (hc0 : l0.length ≤ c0) (h : dots_Block.f k l0 = some (r1, r2)) :
    Calls Try.prog 20 #[.slice A0 l0.length c0] w fun e w' => ∃ v0_ : Value, e = .returned (.tuple #[v0_, .bool r2]) ∧ Kd.R Kd.string 9 w' w.heap.size (fun _ => True) v0_ r1 ∧ Below w.heap.size w w' := by
  unfold dots_Block.f at h
  by_cases hb : (l0.all fun s => decide (s.size + 1 ≤ 9223372036854775807)) = true ∧ l0.length ≤ 8796093022207
  · rw [if_pos hb] at h
    simp only [Option.some.injEq, Prod.mk.injEq] at h
    obtain ⟨rfl, rfl⟩ := h
    have HC := Aside0.mk (all51_calls A0 c0 l0 w hr0 hc0 (fun s hs => by have := List.all_eq_true.1 hb.1 s hs; simpa using this) hb.2)
    obtain ⟨acc, hacc⟩ : ∃ acc, acc = l0.map blk := ⟨_, rfl⟩
    have HLEN : Aside0 (acc.length + 1 ≤ 8796093022208) := ⟨by rw [hacc, List.length_map]; omega⟩
    rw [← hacc] at HC ⊢
    clear hr0 hc0 hb hacc
    obtain ⟨d, hd⟩ : ∃ d, d = l0.any dotB := ⟨_, rfl⟩
    rw [← hd] at HC ⊢
    clear hd
    go_enter Try.func20, Try.ntmps20
    go_wp2_with (first | (go_at_call 49; (with_reducible refine HC.out.mono ?_); rintro e w' ⟨v0, rfl, hN, hB⟩; have HO := Aside0.mk hN; have HB := Aside0.mk hB; clear hN hB) | ((with_reducible refine gate_builtin (b := .append) (xs := #[.tmp 11, .tmp 12]) rfl ?_); at_builtin; refine Kd.R_append Kd.string (w0 := w) w.heap.size rfl (.tmp 11) (.tmp 12) 22 9 (.string ⟨#[]⟩) 16 rfl Try.underlying22 info9 rfl (by decide) (by omega) _ acc (⟨#[46, 10]⟩ : ByteArray) [.string ⟨#[46, 10]⟩] (fun _ => True) (fun _ => False) rfl rfl ?aP (fun _ hk => hk.elim) (fun _ _ => trivial) ?aO ?aB ?aS ?aL ?_; (case aP => exact rfl); (case aB => exact (by repeat (first | (with_reducible first | exact HB.out | apply below_alloc | apply pw_below_drewN | apply below_drew1) | exact HB.out))); (case aO => exact (by (with_reducible repeat (first | apply Kd.R_alloc | apply Kd.R_drewN | apply Kd.R_drew)); exact HO.out)); (case aS => exact (below_size (by repeat (first | (with_reducible first | exact HB.out | apply below_alloc | apply pw_below_drewN | apply below_drew1) | exact HB.out)))); (case aL => have := HLEN.out; omega); intro v126 w17 ho hb hg hat; have n1 := Aside0.mk ho; have n2 := Aside0.mk hb; clear ho hb hg hat))
    go_ret2
    exact ⟨_, rfl, n1.out, n2.out⟩
  · rw [if_neg hb] at h
    exact absurd h (by simp)
end Go.Proofs.Ytbhfenpccccloaa.M
