/- content.Parts: what the code gives, as a Lean function, and that the machine's call does what it says. -/
import Derived.Test.YtiaoppikdgoieaaH5
namespace Go.Proofs.Ytiaoppikdgoieaa.M
open Go.RowKit Go.Proofs.YtiaoppikdgoieaaW.PrintWords Go.Proofs.YtiaoppikdgoieaaW.PrintLast Go.Proofs.YtiaoppikdgoieaaW.PrintMore Go.Proofs.Ytiaoppikdgoieaa.Hand
set_option linter.unusedVariables false

def content_Parts.f (k : Nat) (a0_0 : Bool) (a0_1 : Int) (a0_2 : Int) (l0_3 : List S35) (l1 : List ByteArray) (l2 : List (List ByteArray)) : Option (List ByteArray × List (List ByteArray) × Int) := if l2.length ≤ 5864062014805 then some (partsG a0_1 a0_2 l0_3 l1 l2) else none
theorem content_Parts.mono : ∀ a0 a1 a2 a3 a4 a5 k, LeO (content_Parts.f k a0 a1 a2 a3 a4 a5) (content_Parts.f (k + 1) a0 a1 a2 a3 a4 a5) := fun _ _ _ _ _ _ _ => LeO.refl _
set_option maxHeartbeats 1000000 in
set_option maxRecDepth 100000 in
theorem content_Parts.calls (k : Nat) (a0_0 : Bool) (a0_1 : Int) (a0_2 : Int) (A0_3 : Option Addr) (c0_3 : Nat) (l0_3 : List S35) (P1_ : Nat → Prop) (A1 : Option Addr) (c1 : Nat) (l1 : List ByteArray) (P2_ : Nat → Prop) (A2 : Option Addr) (c2 : Nat) (l2 : List (List ByteArray)) (r1 : List ByteArray) (r2 : List (List ByteArray)) (r3 : Int) (w : World)
    (hr0_3 : Kd.C k35 w A0_3 l0_3.length l0_3) (hc0_3 : l0_3.length ≤ c0_3) (hs1 : Kd.V Kd.string 9 w w.heap.size (fun k_ => P1_ k_) (.slice A1 l1.length c1) l1) (hs2 : Kd.V (Kd.slice 9 Kd.string) 22 w w.heap.size (fun k_ => P2_ k_) (.slice A2 l2.length c2) l2) (h : content_Parts.f k a0_0 a0_1 a0_2 l0_3 l1 l2 = some (r1, r2, r3)) :
    Calls Try.prog 26 #[.agg #[.bool a0_0, .int .i64 a0_1, .int .i64 a0_2, .slice A0_3 l0_3.length c0_3], .slice A1 l1.length c1, .slice A2 l2.length c2] w fun e w' => ∃ v0_ v1_ : Value, e = .returned (.tuple #[v0_, v1_, .int .i64 r3]) ∧ Kd.V Kd.string 9 w' w.heap.size (fun k_ => ((P1_ k_ ∨ P2_ k_) ∨ w.heap.size ≤ k_) ∧ some k_ ≠ (v1_ : Value).ownBlock) v0_ r1 ∧ Kd.N (Kd.slice 9 Kd.string) 22 w' w.heap.size (fun k_ => ((P1_ k_ ∨ P2_ k_) ∨ w.heap.size ≤ k_)) v1_ r2 ∧ Below w.heap.size w w' := by
  unfold content_Parts.f at h
  by_cases hbig : l2.length ≤ 5864062014805
  · rw [if_pos hbig] at h
    have hg : partsG a0_1 a0_2 l0_3 l1 l2 = (r1, r2, r3) := Option.some.inj h
    have fin : ∀ (e : Ending) (w' : World), (∃ v0_ v1_ : Value, e = .returned (.tuple #[v0_, v1_, .int .i64 (partsG a0_1 a0_2 l0_3 l1 l2).2.2]) ∧ Kd.V Kd.string 9 w' w.heap.size (fun k_ => P1_ k_ ∧ k_ < w.heap.size) v0_ (partsG a0_1 a0_2 l0_3 l1 l2).1 ∧ Kd.N (Kd.slice 9 Kd.string) 22 w' w.heap.size (fun k_ => (P2_ k_ ∨ w.heap.size ≤ k_)) v1_ (partsG a0_1 a0_2 l0_3 l1 l2).2.1 ∧ Below w.heap.size w w') →
        ∃ v0_ v1_ : Value, e = .returned (.tuple #[v0_, v1_, .int .i64 r3]) ∧ Kd.V Kd.string 9 w' w.heap.size (fun k_ => ((P1_ k_ ∨ P2_ k_) ∨ w.heap.size ≤ k_) ∧ some k_ ≠ (v1_ : Value).ownBlock) v0_ r1 ∧ Kd.N (Kd.slice 9 Kd.string) 22 w' w.heap.size (fun k_ => ((P1_ k_ ∨ P2_ k_) ∨ w.heap.size ≤ k_)) v1_ r2 ∧ Below w.heap.size w w' := by
      rintro e w' ⟨v0, v1, he, hv, hn, hb⟩
      rw [hg] at he hv hn
      exact ⟨v0, v1, he, Kd.V_mono hv (fun k hk => ⟨.inl (.inl hk.1), fun he => by have := Kd.N_base hn k he.symm; have := hk.2; omega⟩), Kd.N_mono hn (fun k hk => hk.imp .inr id), hb⟩
    by_cases hl : l0_3.length = l2.length
    · by_cases hsp : spanB a0_1 a0_2 l1.length = true
      · exact (parts26_yes a0_0 a0_1 a0_2 A0_3 c0_3 l0_3 P1_ A1 c1 l1 P2_ A2 c2 l2 w hr0_3 hc0_3 hs1 hs2 hl hbig hsp).mono fin
      · exact (parts26_no a0_0 a0_1 a0_2 A0_3 c0_3 l0_3 P1_ A1 c1 l1 P2_ A2 c2 l2 w hr0_3 hc0_3 hs1 hs2 hl hbig (Bool.eq_false_iff.mpr hsp)).mono fin
    · have hg2 : r3 = 1 ∧ r1 = [] ∧ r2 = [] := by
        unfold partsG at hg
        rw [if_neg hl] at hg
        simp only [Prod.mk.injEq] at hg
        exact ⟨hg.2.2.symm, hg.1.symm, hg.2.1.symm⟩
      obtain ⟨rfl, rfl, rfl⟩ := hg2
      have hn1 : ((l0_3.length : Int) != (l2.length : Int)) = true := bne_iff_ne.mpr (by omega)
      have hn2 : (l0_3.length != l2.length) = true := bne_iff_ne.mpr hl
      clear fin hg hs1 hs2 hr0_3 hc0_3 h hbig hl
      go_enter Try.func26, Try.ntmps26
      go_wp2
      repeat (go_quiet (fail); try go_wp2)
      go_ret3
      exact ⟨_, _, rfl, Kd.V_nil _ _ _ _ _, Kd.N_nil _ _ _ _ _, by repeat (first | exact Below.refl _ _ | apply below_alloc | apply pw_below_drewN)⟩
  · rw [if_neg hbig] at h
    exact absurd h (by simp)
end Go.Proofs.Ytiaoppikdgoieaa.M
