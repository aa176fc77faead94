/- content.Differing: what the code takes, as a Lean function, and that the machine's call does what it says. -/
import Derived.Test.YtiaoppikdgoieaaH2
namespace Go.Proofs.Ytiaoppikdgoieaa.M
open Go.RowKit Go.Proofs.YtiaoppikdgoieaaW.PrintWords Go.Proofs.YtiaoppikdgoieaaW.PrintLast Go.Proofs.YtiaoppikdgoieaaW.PrintMore Go.Proofs.Ytiaoppikdgoieaa.Hand
set_option linter.unusedVariables false

def content_Differing.f (k : Nat) (l0 : List ByteArray) (l1 : List (List ByteArray)) : Option (List (List ByteArray)) := if (othersG l0 l1 []).length ≤ 5864062014805 then some (othersG l0 l1 []) else none
theorem content_Differing.mono : ∀ a0 a1 k, LeO (content_Differing.f k a0 a1) (content_Differing.f (k + 1) a0 a1) := fun _ _ _ => LeO.refl _
set_option maxHeartbeats 1000000 in
theorem content_Differing.calls (k : Nat) (A0 : Option Addr) (c0 : Nat) (l0 : List ByteArray) (P1_ : Nat → Prop) (A1 : Option Addr) (c1 : Nat) (l1 : List (List ByteArray)) (r : List (List ByteArray)) (w : World) (hr0 : Kd.C Kd.string w A0 l0.length l0) (hc0 : l0.length ≤ c0) (hs1 : Kd.V (Kd.slice 9 Kd.string) 22 w w.heap.size (fun k_ => P1_ k_) (.slice A1 l1.length c1) l1) (h : content_Differing.f k l0 l1 = some r) :
    Calls Try.prog 29 #[.slice A0 l0.length c0, .slice A1 l1.length c1] w fun e w' => ∃ v0_ : Value, e = .returned (v0_) ∧ Kd.N (Kd.slice 9 Kd.string) 22 w' w.heap.size (fun k_ => (P1_ k_ ∨ w.heap.size ≤ k_)) v0_ r ∧ Below w.heap.size w w' := by
  unfold content_Differing.f at h
  by_cases hb : (othersG l0 l1 []).length ≤ 5864062014805
  · rw [if_pos hb] at h
    obtain rfl := Option.some.inj h
    have HC := Aside0.mk (others_calls A0 c0 l0 P1_ A1 c1 l1 w hr0 hc0 hs1 hb)
    clear hr0 hc0 hs1 hb h
    go_enter Try.func29, Try.ntmps29
    go_wp2_with (go_at_call 51; (with_reducible refine HC.out.mono ?_); rintro e w' ⟨v0, rfl, hN, hB⟩; have HN := Aside0.mk hN; have HB := Aside0.mk hB; clear hN hB)
    go_ret
    exact ⟨_, rfl, HN.out, HB.out⟩
  · rw [if_neg hb] at h
    exact absurd h (by simp)
end Go.Proofs.Ytiaoppikdgoieaa.M
