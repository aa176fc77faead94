/- By a program of this session: a Go function as a Lean function, and that the machine's call does what it says. -/
import Derived.Test.YtbhfenpccccloaaF0
import Derived.Test.YtbhfenpccccloaaF42
import Derived.Test.YtbhfenpccccloaaF44
import Derived.Test.YtbhfenpccccloaaF38
import Derived.Test.YtbhfenpccccloaaF43
import Derived.Test.YtbhfenpccccloaaF45
namespace Go.Proofs.Ytbhfenpccccloaa.M
open Go.RowKit Go.Proofs.YtbhfenpccccloaaW.PrintWords Go.Proofs.YtbhfenpccccloaaW.PrintLast Go.Proofs.YtbhfenpccccloaaW.PrintMore
attribute [local go_sem] max2_int min2_int max_two min_two max_three min_three max_four min_four
set_option linter.unusedVariables false
set_option linter.unusedSimpArgs false

/-! ### sennitlaw14_FlagsDoes: function 14 -/
def sennitlaw14_FlagsDoes.f (k : Nat) (a0 : Int) (a1 : Int) : Option (Bool) := (sennitlaw14_awake.f k).bind fun t335 => (if t335 = true then ((flags_Known.f k a0).bind fun t336 => ((sennitref14_Known.f a0).bind fun t337 => (if (t336 == t337) = true then ((flags_Does.f k a0 a1).bind fun t338 => ((sennitref14_Does.f k a0 a1).bind fun t339 => (if t338 = t339 then ((flags_Known.f k a0).bind fun t340 => (if t340 = true then (some true) else ((flags_Does.f k a0 a1).bind fun t341 => (some (t341 == 0))))) else (some false)))) else (some false)))) else (some false))
theorem sennitlaw14_FlagsDoes.mono : ∀ a0 a1 k, LeO (sennitlaw14_FlagsDoes.f k a0 a1) (sennitlaw14_FlagsDoes.f (k + 1) a0 a1) := by
  intro a0 a1 k
  unfold sennitlaw14_FlagsDoes.f
  repeat' first
      | (with_reducible exact flags_Does.mono _ _ _)
      | (with_reducible exact flags_Known.mono _ _)
      | (with_reducible exact sennitlaw14_awake.mono _)
      | (with_reducible exact sennitref14_Does.mono _ _ _)
      | (with_reducible exact LeO.refl _)
      | (with_reducible exact LeO.none _)
      | (with_reducible refine LeO.ite ?_ ?_)
      | (with_reducible refine LeO.bind ?_ (fun _ => ?_))
      | exact flags_Does.mono _ _ _
      | exact flags_Known.mono _ _
      | exact sennitlaw14_awake.mono _
      | exact sennitref14_Does.mono _ _ _
      | exact LeO.none _
      | refine LeO.ite ?_ ?_
      | refine LeO.bind ?_ (fun _ => ?_)
set_option maxHeartbeats 8000000 in
set_option maxRecDepth 100000 in
theorem sennitlaw14_FlagsDoes.calls (k : Nat) (a0 : Int) (a1 : Int) (r : Bool) (w : World) (h : sennitlaw14_FlagsDoes.f k a0 a1 = some r) :
    Calls Try.prog 14 #[.int .u8 a0, .int .i64 a1] w fun e w' => e = .returned (.bool r) ∧ Below w.heap.size w w' := by
  have HB := Aside0.mk (Below.refl w.heap.size w)
  have H : ((sennitlaw14_awake.f k).bind fun t335 => (if t335 = true then ((flags_Known.f k a0).bind fun t336 => ((sennitref14_Known.f a0).bind fun t337 => (if (t336 == t337) = true then ((flags_Does.f k a0 a1).bind fun t338 => ((sennitref14_Does.f k a0 a1).bind fun t339 => (if t338 = t339 then ((flags_Known.f k a0).bind fun t340 => (if t340 = true then (some true) else ((flags_Does.f k a0 a1).bind fun t341 => (some (t341 == 0))))) else (some false)))) else (some false)))) else (some false))) = some r := h
  clear h
  replace H := Option.bind_eq_some_iff.mp H
  obtain ⟨t335, A30, H⟩ := H
  replace H : (if t335 = true then ((flags_Known.f k a0).bind fun t336 => ((sennitref14_Known.f a0).bind fun t337 => (if (t336 == t337) = true then ((flags_Does.f k a0 a1).bind fun t338 => ((sennitref14_Does.f k a0 a1).bind fun t339 => (if t338 = t339 then ((flags_Known.f k a0).bind fun t340 => (if t340 = true then (some true) else ((flags_Does.f k a0 a1).bind fun t341 => (some (t341 == 0))))) else (some false)))) else (some false)))) else (some false)) = some r := H
  have A3 := Aside0.mk A30
  clear A30
  by_cases c4 : t335 = true
  · subst c4
    have H1 : ((flags_Known.f k a0).bind fun t336 => ((sennitref14_Known.f a0).bind fun t337 => (if (t336 == t337) = true then ((flags_Does.f k a0 a1).bind fun t338 => ((sennitref14_Does.f k a0 a1).bind fun t339 => (if t338 = t339 then ((flags_Known.f k a0).bind fun t340 => (if t340 = true then (some true) else ((flags_Does.f k a0 a1).bind fun t341 => (some (t341 == 0))))) else (some false)))) else (some false)))) = some r := by rw [if_pos rfl] at H; exact H
    clear H
    have H := H1
    clear H1
    replace H := Option.bind_eq_some_iff.mp H
    obtain ⟨t336, A50, H⟩ := H
    replace H : ((sennitref14_Known.f a0).bind fun t337 => (if (t336 == t337) = true then ((flags_Does.f k a0 a1).bind fun t338 => ((sennitref14_Does.f k a0 a1).bind fun t339 => (if t338 = t339 then ((flags_Known.f k a0).bind fun t340 => (if t340 = true then (some true) else ((flags_Does.f k a0 a1).bind fun t341 => (some (t341 == 0))))) else (some false)))) else (some false))) = some r := H
    have A5 := Aside0.mk A50
    clear A50
    replace H := Option.bind_eq_some_iff.mp H
    obtain ⟨t337, A60, H⟩ := H
    replace H : (if (t336 == t337) = true then ((flags_Does.f k a0 a1).bind fun t338 => ((sennitref14_Does.f k a0 a1).bind fun t339 => (if t338 = t339 then ((flags_Known.f k a0).bind fun t340 => (if t340 = true then (some true) else ((flags_Does.f k a0 a1).bind fun t341 => (some (t341 == 0))))) else (some false)))) else (some false)) = some r := H
    have A6 := Aside0.mk A60
    clear A60
    by_cases c7 : (t336 == t337) = true
    · rw [if_pos c7] at H
      have c7b0 : (t336 == t337) = true := c7
      (try (have c7b1 : decide (t336 = t337) = true := by simpa using c7))
      (try (have c7b2 : (t336 == t337) = true := by simpa using c7))
      clear c7
      replace H := Option.bind_eq_some_iff.mp H
      obtain ⟨t338, A80, H⟩ := H
      replace H : ((sennitref14_Does.f k a0 a1).bind fun t339 => (if t338 = t339 then ((flags_Known.f k a0).bind fun t340 => (if t340 = true then (some true) else ((flags_Does.f k a0 a1).bind fun t341 => (some (t341 == 0))))) else (some false))) = some r := H
      have A8 := Aside0.mk A80
      clear A80
      replace H := Option.bind_eq_some_iff.mp H
      obtain ⟨t339, A90, H⟩ := H
      replace H : (if t338 = t339 then ((flags_Known.f k a0).bind fun t340 => (if t340 = true then (some true) else ((flags_Does.f k a0 a1).bind fun t341 => (some (t341 == 0))))) else (some false)) = some r := H
      have A9 := Aside0.mk A90
      clear A90
      by_cases c10 : t338 = t339
      · rw [if_pos c10] at H
        have c10b0 : (t338 == t339) = true := beq_iff_eq.mpr c10
        have c10b1 : (t338 != t339) = false := bne_eq_false_iff_eq.mpr c10
        clear c10
        replace H := Option.bind_eq_some_iff.mp H
        obtain ⟨t340, A110, H⟩ := H
        obtain rfl : t340 = t336 := Option.some.inj (A110.symm.trans A5.out)
        replace H : (if t340 = true then (some true) else ((flags_Does.f k a0 a1).bind fun t341 => (some (t341 == 0)))) = some r := H
        have A11 := Aside0.mk A110
        clear A110
        by_cases c12 : t340 = true
        · subst c12
          have H1 : (some true) = some r := by rw [if_pos rfl] at H; exact H
          clear H
          have H := H1
          clear H1
          obtain rfl := Option.some.inj H
          go_enter Try.func14, Try.ntmps14
          go_wp2_with (first | ((with_reducible refine gate_callee (f := 38) rfl ?_); refine goesL_ (some 6) rfl rfl Try.func38 (by kernel_rfl) rfl #[] rfl (by (try simp only [List.map_toArray, List.map_cons, List.map_nil]); first | done | rfl | (simp only [List.length_drop, List.length_take]; rfl)) ?_; (with_reducible refine (sennitlaw14_awake.calls k  true _ A3.out).mono ?_); rintro e w13 ⟨rfl, hb⟩; refine ⟨_, rfl, ?_⟩; have n0_ := Aside0.mk (below_step (by repeat (first | (with_reducible first | exact HB.out | apply below_alloc | apply pw_below_drewN | apply below_drew1) | exact HB.out)) hb); clear HB; have HB := n0_; clear n0_; (try clear hb); (try clear hb2); (try clear hk); (try clear hi)) | (go_at_call 42; (with_reducible refine (flags_Known.calls k a0 t340 _ A5.out).mono ?_); rintro e w14 ⟨rfl, hb⟩; have n0_ := Aside0.mk (below_step (by repeat (first | (with_reducible first | exact HB.out | apply below_alloc | apply pw_below_drewN | apply below_drew1) | exact HB.out)) hb); clear HB; have HB := n0_; clear n0_; (try clear hb); (try clear hb2); (try clear hk); (try clear hi)) | (go_at_call 43; (with_reducible refine (sennitref14_Known.calls a0 t337 _ A6.out).mono ?_); rintro e w' ⟨rfl, ⟨nd, rfl⟩⟩) | (go_at_call 44; (with_reducible refine (flags_Does.calls k a0 a1 t338 _ A8.out).mono ?_); rintro e w15 ⟨rfl, hb⟩; have n0_ := Aside0.mk (below_step (by repeat (first | (with_reducible first | exact HB.out | apply below_alloc | apply pw_below_drewN | apply below_drew1) | exact HB.out)) hb); clear HB; have HB := n0_; clear n0_; (try clear hb); (try clear hb2); (try clear hk); (try clear hi)) | (go_at_call 45; (with_reducible refine (sennitref14_Does.calls k a0 a1 t339 _ A9.out).mono ?_); rintro e w' ⟨rfl, ⟨nd, rfl⟩⟩) | (go_at_call 42; (with_reducible refine (flags_Known.calls k a0 true _ A11.out).mono ?_); rintro e w16 ⟨rfl, hb⟩; have n0_ := Aside0.mk (below_step (by repeat (first | (with_reducible first | exact HB.out | apply below_alloc | apply pw_below_drewN | apply below_drew1) | exact HB.out)) hb); clear HB; have HB := n0_; clear n0_; (try clear hb); (try clear hb2); (try clear hk); (try clear hi)))
          go_ret
          exact ⟨by first | rfl | (simp [errW_none, errW_some] <;> rfl) | (simp [*, errW_none, errW_some] <;> rfl), by repeat (first | (with_reducible first | exact HB.out | apply below_alloc | apply pw_below_drewN | apply below_drew1) | exact HB.out)⟩
        · replace c12 := Bool.eq_false_iff.mpr c12
          subst c12
          have H1 : ((flags_Does.f k a0 a1).bind fun t341 => (some (t341 == 0))) = some r := by rw [if_neg (show ¬ (false = true) by decide)] at H; exact H
          clear H
          have H := H1
          clear H1
          replace H := Option.bind_eq_some_iff.mp H
          obtain ⟨t341, A170, H⟩ := H
          obtain rfl : t341 = t338 := Option.some.inj (A170.symm.trans A8.out)
          replace H : (some (t341 == 0)) = some r := H
          have A17 := Aside0.mk A170
          clear A170
          obtain rfl := Option.some.inj H
          go_enter Try.func14, Try.ntmps14
          go_wp2_with (first | ((with_reducible refine gate_callee (f := 38) rfl ?_); refine goesL_ (some 6) rfl rfl Try.func38 (by kernel_rfl) rfl #[] rfl (by (try simp only [List.map_toArray, List.map_cons, List.map_nil]); first | done | rfl | (simp only [List.length_drop, List.length_take]; rfl)) ?_; (with_reducible refine (sennitlaw14_awake.calls k  true _ A3.out).mono ?_); rintro e w18 ⟨rfl, hb⟩; refine ⟨_, rfl, ?_⟩; have n0_ := Aside0.mk (below_step (by repeat (first | (with_reducible first | exact HB.out | apply below_alloc | apply pw_below_drewN | apply below_drew1) | exact HB.out)) hb); clear HB; have HB := n0_; clear n0_; (try clear hb); (try clear hb2); (try clear hk); (try clear hi)) | (go_at_call 42; (with_reducible refine (flags_Known.calls k a0 t340 _ A5.out).mono ?_); rintro e w19 ⟨rfl, hb⟩; have n0_ := Aside0.mk (below_step (by repeat (first | (with_reducible first | exact HB.out | apply below_alloc | apply pw_below_drewN | apply below_drew1) | exact HB.out)) hb); clear HB; have HB := n0_; clear n0_; (try clear hb); (try clear hb2); (try clear hk); (try clear hi)) | (go_at_call 43; (with_reducible refine (sennitref14_Known.calls a0 t337 _ A6.out).mono ?_); rintro e w' ⟨rfl, ⟨nd, rfl⟩⟩) | (go_at_call 44; (with_reducible refine (flags_Does.calls k a0 a1 t341 _ A8.out).mono ?_); rintro e w20 ⟨rfl, hb⟩; have n0_ := Aside0.mk (below_step (by repeat (first | (with_reducible first | exact HB.out | apply below_alloc | apply pw_below_drewN | apply below_drew1) | exact HB.out)) hb); clear HB; have HB := n0_; clear n0_; (try clear hb); (try clear hb2); (try clear hk); (try clear hi)) | (go_at_call 45; (with_reducible refine (sennitref14_Does.calls k a0 a1 t339 _ A9.out).mono ?_); rintro e w' ⟨rfl, ⟨nd, rfl⟩⟩) | (go_at_call 42; (with_reducible refine (flags_Known.calls k a0 false _ A11.out).mono ?_); rintro e w21 ⟨rfl, hb⟩; have n0_ := Aside0.mk (below_step (by repeat (first | (with_reducible first | exact HB.out | apply below_alloc | apply pw_below_drewN | apply below_drew1) | exact HB.out)) hb); clear HB; have HB := n0_; clear n0_; (try clear hb); (try clear hb2); (try clear hk); (try clear hi)) | (go_at_call 44; (with_reducible refine (flags_Does.calls k a0 a1 t341 _ A17.out).mono ?_); rintro e w22 ⟨rfl, hb⟩; have n0_ := Aside0.mk (below_step (by repeat (first | (with_reducible first | exact HB.out | apply below_alloc | apply pw_below_drewN | apply below_drew1) | exact HB.out)) hb); clear HB; have HB := n0_; clear n0_; (try clear hb); (try clear hb2); (try clear hk); (try clear hi)))
          go_ret
          exact ⟨by first | rfl | (simp [errW_none, errW_some] <;> rfl) | (simp [*, errW_none, errW_some] <;> rfl), by repeat (first | (with_reducible first | exact HB.out | apply below_alloc | apply pw_below_drewN | apply below_drew1) | exact HB.out)⟩
      · rw [if_neg c10] at H
        have c10b0 : (t338 == t339) = false := beq_eq_false_iff_ne.mpr c10
        have c10b1 : (t338 != t339) = true := bne_iff_ne.mpr c10
        obtain rfl := Option.some.inj H
        go_enter Try.func14, Try.ntmps14
        go_wp2_with (first | ((with_reducible refine gate_callee (f := 38) rfl ?_); refine goesL_ (some 6) rfl rfl Try.func38 (by kernel_rfl) rfl #[] rfl (by (try simp only [List.map_toArray, List.map_cons, List.map_nil]); first | done | rfl | (simp only [List.length_drop, List.length_take]; rfl)) ?_; (with_reducible refine (sennitlaw14_awake.calls k  true _ A3.out).mono ?_); rintro e w23 ⟨rfl, hb⟩; refine ⟨_, rfl, ?_⟩; have n0_ := Aside0.mk (below_step (by repeat (first | (with_reducible first | exact HB.out | apply below_alloc | apply pw_below_drewN | apply below_drew1) | exact HB.out)) hb); clear HB; have HB := n0_; clear n0_; (try clear hb); (try clear hb2); (try clear hk); (try clear hi)) | (go_at_call 42; (with_reducible refine (flags_Known.calls k a0 t336 _ A5.out).mono ?_); rintro e w24 ⟨rfl, hb⟩; have n0_ := Aside0.mk (below_step (by repeat (first | (with_reducible first | exact HB.out | apply below_alloc | apply pw_below_drewN | apply below_drew1) | exact HB.out)) hb); clear HB; have HB := n0_; clear n0_; (try clear hb); (try clear hb2); (try clear hk); (try clear hi)) | (go_at_call 43; (with_reducible refine (sennitref14_Known.calls a0 t337 _ A6.out).mono ?_); rintro e w' ⟨rfl, ⟨nd, rfl⟩⟩) | (go_at_call 44; (with_reducible refine (flags_Does.calls k a0 a1 t338 _ A8.out).mono ?_); rintro e w25 ⟨rfl, hb⟩; have n0_ := Aside0.mk (below_step (by repeat (first | (with_reducible first | exact HB.out | apply below_alloc | apply pw_below_drewN | apply below_drew1) | exact HB.out)) hb); clear HB; have HB := n0_; clear n0_; (try clear hb); (try clear hb2); (try clear hk); (try clear hi)) | (go_at_call 45; (with_reducible refine (sennitref14_Does.calls k a0 a1 t339 _ A9.out).mono ?_); rintro e w' ⟨rfl, ⟨nd, rfl⟩⟩))
        go_ret
        exact ⟨by first | rfl | (simp [errW_none, errW_some] <;> rfl) | (simp [*, errW_none, errW_some] <;> rfl), by repeat (first | (with_reducible first | exact HB.out | apply below_alloc | apply pw_below_drewN | apply below_drew1) | exact HB.out)⟩
    · rw [if_neg c7] at H
      have c7b0 : (t336 == t337) = false := by simpa using c7
      (try (have c7b1 : decide (t336 = t337) = false := by simpa using c7))
      (try (have c7b2 : (t336 == t337) = false := by simpa using c7))
      (try (have c7b3 : ¬ (t336 = t337) := by simpa using c7))
      clear c7
      obtain rfl := Option.some.inj H
      go_enter Try.func14, Try.ntmps14
      go_wp2_with (first | ((with_reducible refine gate_callee (f := 38) rfl ?_); refine goesL_ (some 6) rfl rfl Try.func38 (by kernel_rfl) rfl #[] rfl (by (try simp only [List.map_toArray, List.map_cons, List.map_nil]); first | done | rfl | (simp only [List.length_drop, List.length_take]; rfl)) ?_; (with_reducible refine (sennitlaw14_awake.calls k  true _ A3.out).mono ?_); rintro e w26 ⟨rfl, hb⟩; refine ⟨_, rfl, ?_⟩; have n0_ := Aside0.mk (below_step (by repeat (first | (with_reducible first | exact HB.out | apply below_alloc | apply pw_below_drewN | apply below_drew1) | exact HB.out)) hb); clear HB; have HB := n0_; clear n0_; (try clear hb); (try clear hb2); (try clear hk); (try clear hi)) | (go_at_call 42; (with_reducible refine (flags_Known.calls k a0 t336 _ A5.out).mono ?_); rintro e w27 ⟨rfl, hb⟩; have n0_ := Aside0.mk (below_step (by repeat (first | (with_reducible first | exact HB.out | apply below_alloc | apply pw_below_drewN | apply below_drew1) | exact HB.out)) hb); clear HB; have HB := n0_; clear n0_; (try clear hb); (try clear hb2); (try clear hk); (try clear hi)) | (go_at_call 43; (with_reducible refine (sennitref14_Known.calls a0 t337 _ A6.out).mono ?_); rintro e w' ⟨rfl, ⟨nd, rfl⟩⟩))
      go_ret
      exact ⟨by first | rfl | (simp [errW_none, errW_some] <;> rfl) | (simp [*, errW_none, errW_some] <;> rfl), by repeat (first | (with_reducible first | exact HB.out | apply below_alloc | apply pw_below_drewN | apply below_drew1) | exact HB.out)⟩
  · replace c4 := Bool.eq_false_iff.mpr c4
    subst c4
    have H1 : (some false) = some r := by rw [if_neg (show ¬ (false = true) by decide)] at H; exact H
    clear H
    have H := H1
    clear H1
    obtain rfl := Option.some.inj H
    go_enter Try.func14, Try.ntmps14
    go_wp2_with (first | ((with_reducible refine gate_callee (f := 38) rfl ?_); refine goesL_ (some 6) rfl rfl Try.func38 (by kernel_rfl) rfl #[] rfl (by (try simp only [List.map_toArray, List.map_cons, List.map_nil]); first | done | rfl | (simp only [List.length_drop, List.length_take]; rfl)) ?_; (with_reducible refine (sennitlaw14_awake.calls k  false _ A3.out).mono ?_); rintro e w28 ⟨rfl, hb⟩; refine ⟨_, rfl, ?_⟩; have n0_ := Aside0.mk (below_step (by repeat (first | (with_reducible first | exact HB.out | apply below_alloc | apply pw_below_drewN | apply below_drew1) | exact HB.out)) hb); clear HB; have HB := n0_; clear n0_; (try clear hb); (try clear hb2); (try clear hk); (try clear hi)))
    go_ret
    exact ⟨by first | rfl | (simp [errW_none, errW_some] <;> rfl) | (simp [*, errW_none, errW_some] <;> rfl), by repeat (first | (with_reducible first | exact HB.out | apply below_alloc | apply pw_below_drewN | apply below_drew1) | exact HB.out)⟩

end Go.Proofs.Ytbhfenpccccloaa.M
