/- By a program of this session: a Go function as a Lean function, and that the machine's call does what it says. -/
import Derived.Test.YtbhfenpccccloaaF0
namespace Go.Proofs.Ytbhfenpccccloaa.M
open Go.RowKit Go.Proofs.YtbhfenpccccloaaW.PrintWords Go.Proofs.YtbhfenpccccloaaW.PrintLast Go.Proofs.YtbhfenpccccloaaW.PrintMore
attribute [local go_sem] max2_int min2_int max_two min_two max_three min_three max_four min_four
set_option linter.unusedVariables false
set_option linter.unusedSimpArgs false

/-! ### sennitref14_Known: function 43 -/
def sennitref14_Known.f (a0 : Int) : Option (Bool) := if a0 = 101 then (some true) else (if a0 = 120 then (some true) else (if a0 = 51 then (some true) else (if a0 = 69 then (some true) else (if a0 = 88 then (some true) else (some (a0 == 65))))))
set_option maxHeartbeats 8000000 in
set_option maxRecDepth 100000 in
theorem sennitref14_Known.calls (a0 : Int) (r : Bool) (w : World) (h : sennitref14_Known.f a0 = some r) :
    Calls Try.prog 43 #[.int .u8 a0] w fun e w' => e = .returned (.bool r) ∧ Drawn0 w w' := by
  have H : (if a0 = 101 then (some true) else (if a0 = 120 then (some true) else (if a0 = 51 then (some true) else (if a0 = 69 then (some true) else (if a0 = 88 then (some true) else (some (a0 == 65))))))) = some r := h
  clear h
  by_cases c2 : a0 = 101
  · rw [if_pos c2] at H
    have c2b0 : (a0 == 101) = true := beq_iff_eq.mpr c2
    have c2b1 : (a0 != 101) = false := bne_eq_false_iff_eq.mpr c2
    clear c2
    obtain rfl := Option.some.inj H
    go_enter Try.func43, Try.ntmps43
    go_wp2
    go_ret
    exact ⟨by first | rfl | (simp; done) | (simp [*]; done), by repeat (first | exact Drawn0.refl _ | apply Drawn0.step)⟩
  · rw [if_neg c2] at H
    have c2b0 : (a0 == 101) = false := beq_eq_false_iff_ne.mpr c2
    have c2b1 : (a0 != 101) = true := bne_iff_ne.mpr c2
    by_cases c3 : a0 = 120
    · rw [if_pos c3] at H
      have c3b0 : (a0 == 120) = true := beq_iff_eq.mpr c3
      have c3b1 : (a0 != 120) = false := bne_eq_false_iff_eq.mpr c3
      clear c3
      obtain rfl := Option.some.inj H
      go_enter Try.func43, Try.ntmps43
      go_wp2
      go_ret
      exact ⟨by first | rfl | (simp; done) | (simp [*]; done), by repeat (first | exact Drawn0.refl _ | apply Drawn0.step)⟩
    · rw [if_neg c3] at H
      have c3b0 : (a0 == 120) = false := beq_eq_false_iff_ne.mpr c3
      have c3b1 : (a0 != 120) = true := bne_iff_ne.mpr c3
      by_cases c4 : a0 = 51
      · rw [if_pos c4] at H
        have c4b0 : (a0 == 51) = true := beq_iff_eq.mpr c4
        have c4b1 : (a0 != 51) = false := bne_eq_false_iff_eq.mpr c4
        clear c4
        obtain rfl := Option.some.inj H
        go_enter Try.func43, Try.ntmps43
        go_wp2
        go_ret
        exact ⟨by first | rfl | (simp; done) | (simp [*]; done), by repeat (first | exact Drawn0.refl _ | apply Drawn0.step)⟩
      · rw [if_neg c4] at H
        have c4b0 : (a0 == 51) = false := beq_eq_false_iff_ne.mpr c4
        have c4b1 : (a0 != 51) = true := bne_iff_ne.mpr c4
        by_cases c5 : a0 = 69
        · rw [if_pos c5] at H
          have c5b0 : (a0 == 69) = true := beq_iff_eq.mpr c5
          have c5b1 : (a0 != 69) = false := bne_eq_false_iff_eq.mpr c5
          clear c5
          obtain rfl := Option.some.inj H
          go_enter Try.func43, Try.ntmps43
          go_wp2
          go_ret
          exact ⟨by first | rfl | (simp; done) | (simp [*]; done), by repeat (first | exact Drawn0.refl _ | apply Drawn0.step)⟩
        · rw [if_neg c5] at H
          have c5b0 : (a0 == 69) = false := beq_eq_false_iff_ne.mpr c5
          have c5b1 : (a0 != 69) = true := bne_iff_ne.mpr c5
          by_cases c6 : a0 = 88
          · rw [if_pos c6] at H
            have c6b0 : (a0 == 88) = true := beq_iff_eq.mpr c6
            have c6b1 : (a0 != 88) = false := bne_eq_false_iff_eq.mpr c6
            clear c6
            obtain rfl := Option.some.inj H
            go_enter Try.func43, Try.ntmps43
            go_wp2
            go_ret
            exact ⟨by first | rfl | (simp; done) | (simp [*]; done), by repeat (first | exact Drawn0.refl _ | apply Drawn0.step)⟩
          · rw [if_neg c6] at H
            have c6b0 : (a0 == 88) = false := beq_eq_false_iff_ne.mpr c6
            have c6b1 : (a0 != 88) = true := bne_iff_ne.mpr c6
            obtain rfl := Option.some.inj H
            go_enter Try.func43, Try.ntmps43
            go_wp2
            go_ret
            exact ⟨by first | rfl | (simp; done) | (simp [*]; done), by repeat (first | exact Drawn0.refl _ | apply Drawn0.step)⟩

end Go.Proofs.Ytbhfenpccccloaa.M
