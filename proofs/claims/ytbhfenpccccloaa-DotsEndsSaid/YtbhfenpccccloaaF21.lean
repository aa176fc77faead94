/- dots.Strip: what the code gives, as a Lean function, and that the machine's call does what it says. -/
import Derived.Test.YtbhfenpccccloaaH1
namespace Go.Proofs.Ytbhfenpccccloaa.M
open Go.RowKit Go.Proofs.YtbhfenpccccloaaW.PrintWords Go.Proofs.YtbhfenpccccloaaW.PrintLast Go.Proofs.YtbhfenpccccloaaW.PrintMore Go.Proofs.Ytbhfenpccccloaa.Hand
set_option linter.unusedVariables false

def dots_Strip.f (k : Nat) (l0 : List ByteArray) : Option (List ByteArray × Bool) := if (l0.all fun s => decide (s.size + 1 ≤ 9223372036854775807)) = true ∧ l0.length ≤ 8796093022207 then some (l0.map unb, l0.any dotB) else none
theorem dots_Strip.mono : ∀ a0 k, LeO (dots_Strip.f k a0) (dots_Strip.f (k + 1) a0) := fun _ _ => LeO.refl _
set_option maxHeartbeats 1000000 in
set_option maxRecDepth 100000 in
theorem dots_Strip.calls (k : Nat) (A0 : Option Addr) (c0 : Nat) (l0 : List ByteArray) (r1 : List ByteArray) (r2 : Bool) (w : World) (hr0 : Kd.C Kd.string w A0 l0.length l0) (hc0 : l0.length ≤ c0) (h : dots_Strip.f k l0 = some (r1, r2)) :
    Calls Try.prog 21 #[.slice A0 l0.length c0] w fun e w' => ∃ v0_ : Value, e = .returned (.tuple #[v0_, .bool r2]) ∧ Kd.R Kd.string 9 w' w.heap.size (fun _ => True) v0_ r1 ∧ Below w.heap.size w w' := by
  unfold dots_Strip.f at h
  by_cases hb : (l0.all fun s => decide (s.size + 1 ≤ 9223372036854775807)) = true ∧ l0.length ≤ 8796093022207
  · rw [if_pos hb] at h
    simp only [Option.some.injEq, Prod.mk.injEq] at h
    obtain ⟨rfl, rfl⟩ := h
    have HC := Aside0.mk (all52_calls A0 c0 l0 w hr0 hc0 (fun s hs => by have := List.all_eq_true.1 hb.1 s hs; simpa using this) hb.2)
    obtain ⟨acc, hacc⟩ : ∃ acc, acc = l0.map unb := ⟨_, rfl⟩
    rw [← hacc] at HC ⊢
    clear hr0 hc0 hb hacc
    obtain ⟨d, hd⟩ : ∃ d, d = l0.any dotB := ⟨_, rfl⟩
    rw [← hd] at HC ⊢
    clear hd
    go_enter Try.func21, Try.ntmps21
    go_wp2_with (go_at_call 49; (with_reducible refine HC.out.mono ?_); rintro e w' ⟨v0, rfl, hN, hB⟩; have HO := Aside0.mk hN; have HB := Aside0.mk hB; clear hN hB)
    go_ret2
    exact ⟨_, rfl, HO.out, HB.out⟩
  · rw [if_neg hb] at h
    exact absurd h (by simp)
end Go.Proofs.Ytbhfenpccccloaa.M
