-- By xprint.py, out of the translation's own print. Lean checks it.
import Derived.Test.YtjkpdjadbeidnaaT0
import Derived.Test.YtjkpdjadbeidnaaT4
import Derived.Test.YtjkpdjadbeidnaaT6
import Derived.Test.YtjkpdjadbeidnaaT8
namespace Go.Proofs.Ytjkpdjadbeidnaa.T
open Go.RowKit Go.Proofs.YtjkpdjadbeidnaaW.PrintWords Go.Proofs.YtjkpdjadbeidnaaW.PrintLast Go.Proofs.YtjkpdjadbeidnaaW.PrintMore Go.Proofs.Ytjkpdjadbeidnaa.Flo
attribute [local go_sem high] x_neg x_cneg x_add x_cadd x_eq x_ne x_ge x_le x_ceq x_cne x_ofi x_toi
attribute [local go_sem] max2_int min2_int max_two min_two max_three min_three max_four min_four   -- for this text's walks alone
set_option linter.unusedVariables false
set_option linter.unusedSimpArgs false

/-! ### marigraphlaw13_TurnRound: function 4 -/
def marigraphlaw13_TurnRound.f (k : Nat) (a0 : Int) (a1 : Int) (a2 : Int) (a3 : Int) : Option (Bool) := (marigraphlaw13_of.f (Int.tmod a0 1125899906842624) (Int.tmod a1 1125899906842624)).bind fun t128 => ((marigraphlaw13_shown.f k).bind fun t129 => (if t129 = true then ((turn_By.f t128 4).bind fun t130 => (if (ceq t130.re t130.im t128.re t128.im) = true then ((turn_By.f t128 (wrap64 (a2))).bind fun t131 => ((turn_By.f t131 (wrap64 (a3))).bind fun t132 => ((turn_By.f t128 (wrap64 ((wrap64 (a2)) + (wrap64 (a3))))).bind fun t133 => (if (ceq t132.re t132.im t133.re t133.im) = true then ((turn_By.f t128 2).bind fun t134 => (some (ceq t134.re t134.im (fneg t128.re) (fneg t128.im)))) else (some false))))) else (some false))) else (some false)))
theorem marigraphlaw13_TurnRound.mono : ∀ a0 a1 a2 a3 k, LeO (marigraphlaw13_TurnRound.f k a0 a1 a2 a3) (marigraphlaw13_TurnRound.f (k + 1) a0 a1 a2 a3) := by
  intro a0 a1 a2 a3 k
  unfold marigraphlaw13_TurnRound.f
  repeat' first
      | (with_reducible exact marigraphlaw13_shown.mono _)
      | (with_reducible exact LeO.refl _)
      | (with_reducible exact LeO.none _)
      | (with_reducible refine LeO.ite ?_ ?_)
      | (with_reducible refine LeO.bind ?_ (fun _ => ?_))
      | exact marigraphlaw13_shown.mono _
      | exact LeO.none _
      | refine LeO.ite ?_ ?_
      | refine LeO.bind ?_ (fun _ => ?_)
set_option maxHeartbeats 8000000 in
set_option maxRecDepth 100000 in
theorem marigraphlaw13_TurnRound.calls (k : Nat) (a0 : Int) (a1 : Int) (a2 : Int) (a3 : Int) (r : Bool) (w : World) (h : marigraphlaw13_TurnRound.f k a0 a1 a2 a3 = some r) :
    Calls Try.prog 4 #[.int .i64 a0, .int .i64 a1, .int .i32 a2, .int .i32 a3] w fun e w' => e = .returned (.bool r) ∧ Below w.heap.size w w' := by
  have HB := Aside0.mk (Below.refl w.heap.size w)
  have H : ((marigraphlaw13_of.f (Int.tmod a0 1125899906842624) (Int.tmod a1 1125899906842624)).bind fun t128 => ((marigraphlaw13_shown.f k).bind fun t129 => (if t129 = true then ((turn_By.f t128 4).bind fun t130 => (if (ceq t130.re t130.im t128.re t128.im) = true then ((turn_By.f t128 (wrap64 (a2))).bind fun t131 => ((turn_By.f t131 (wrap64 (a3))).bind fun t132 => ((turn_By.f t128 (wrap64 ((wrap64 (a2)) + (wrap64 (a3))))).bind fun t133 => (if (ceq t132.re t132.im t133.re t133.im) = true then ((turn_By.f t128 2).bind fun t134 => (some (ceq t134.re t134.im (fneg t128.re) (fneg t128.im)))) else (some false))))) else (some false))) else (some false)))) = some r := h
  clear h
  replace H := Option.bind_eq_some_iff.mp H
  obtain ⟨t128, A50, H⟩ := H
  replace H : ((marigraphlaw13_shown.f k).bind fun t129 => (if t129 = true then ((turn_By.f t128 4).bind fun t130 => (if (ceq t130.re t130.im t128.re t128.im) = true then ((turn_By.f t128 (wrap64 (a2))).bind fun t131 => ((turn_By.f t131 (wrap64 (a3))).bind fun t132 => ((turn_By.f t128 (wrap64 ((wrap64 (a2)) + (wrap64 (a3))))).bind fun t133 => (if (ceq t132.re t132.im t133.re t133.im) = true then ((turn_By.f t128 2).bind fun t134 => (some (ceq t134.re t134.im (fneg t128.re) (fneg t128.im)))) else (some false))))) else (some false))) else (some false))) = some r := H
  have A5 := Aside0.mk A50
  clear A50
  replace H := Option.bind_eq_some_iff.mp H
  obtain ⟨t129, A60, H⟩ := H
  replace H : (if t129 = true then ((turn_By.f t128 4).bind fun t130 => (if (ceq t130.re t130.im t128.re t128.im) = true then ((turn_By.f t128 (wrap64 (a2))).bind fun t131 => ((turn_By.f t131 (wrap64 (a3))).bind fun t132 => ((turn_By.f t128 (wrap64 ((wrap64 (a2)) + (wrap64 (a3))))).bind fun t133 => (if (ceq t132.re t132.im t133.re t133.im) = true then ((turn_By.f t128 2).bind fun t134 => (some (ceq t134.re t134.im (fneg t128.re) (fneg t128.im)))) else (some false))))) else (some false))) else (some false)) = some r := H
  have A6 := Aside0.mk A60
  clear A60
  by_cases c7 : t129 = true
  · subst c7
    have H1 : ((turn_By.f t128 4).bind fun t130 => (if (ceq t130.re t130.im t128.re t128.im) = true then ((turn_By.f t128 (wrap64 (a2))).bind fun t131 => ((turn_By.f t131 (wrap64 (a3))).bind fun t132 => ((turn_By.f t128 (wrap64 ((wrap64 (a2)) + (wrap64 (a3))))).bind fun t133 => (if (ceq t132.re t132.im t133.re t133.im) = true then ((turn_By.f t128 2).bind fun t134 => (some (ceq t134.re t134.im (fneg t128.re) (fneg t128.im)))) else (some false))))) else (some false))) = some r := by rw [if_pos rfl] at H; exact H
    clear H
    have H := H1
    clear H1
    replace H := Option.bind_eq_some_iff.mp H
    obtain ⟨t130, A80, H⟩ := H
    replace H : (if (ceq t130.re t130.im t128.re t128.im) = true then ((turn_By.f t128 (wrap64 (a2))).bind fun t131 => ((turn_By.f t131 (wrap64 (a3))).bind fun t132 => ((turn_By.f t128 (wrap64 ((wrap64 (a2)) + (wrap64 (a3))))).bind fun t133 => (if (ceq t132.re t132.im t133.re t133.im) = true then ((turn_By.f t128 2).bind fun t134 => (some (ceq t134.re t134.im (fneg t128.re) (fneg t128.im)))) else (some false))))) else (some false)) = some r := H
    have A8 := Aside0.mk A80
    clear A80
    by_cases c9 : (ceq t130.re t130.im t128.re t128.im) = true
    · rw [if_pos c9] at H
      have c9b0 : (ceq t130.re t130.im t128.re t128.im) = true := c9
      clear c9
      replace H := Option.bind_eq_some_iff.mp H
      obtain ⟨t131, A100, H⟩ := H
      replace H : ((turn_By.f t131 (wrap64 (a3))).bind fun t132 => ((turn_By.f t128 (wrap64 ((wrap64 (a2)) + (wrap64 (a3))))).bind fun t133 => (if (ceq t132.re t132.im t133.re t133.im) = true then ((turn_By.f t128 2).bind fun t134 => (some (ceq t134.re t134.im (fneg t128.re) (fneg t128.im)))) else (some false)))) = some r := H
      have A10 := Aside0.mk A100
      clear A100
      replace H := Option.bind_eq_some_iff.mp H
      obtain ⟨t132, A110, H⟩ := H
      replace H : ((turn_By.f t128 (wrap64 ((wrap64 (a2)) + (wrap64 (a3))))).bind fun t133 => (if (ceq t132.re t132.im t133.re t133.im) = true then ((turn_By.f t128 2).bind fun t134 => (some (ceq t134.re t134.im (fneg t128.re) (fneg t128.im)))) else (some false))) = some r := H
      have A11 := Aside0.mk A110
      clear A110
      replace H := Option.bind_eq_some_iff.mp H
      obtain ⟨t133, A120, H⟩ := H
      replace H : (if (ceq t132.re t132.im t133.re t133.im) = true then ((turn_By.f t128 2).bind fun t134 => (some (ceq t134.re t134.im (fneg t128.re) (fneg t128.im)))) else (some false)) = some r := H
      have A12 := Aside0.mk A120
      clear A120
      by_cases c13 : (ceq t132.re t132.im t133.re t133.im) = true
      · rw [if_pos c13] at H
        have c13b0 : (ceq t132.re t132.im t133.re t133.im) = true := c13
        clear c13
        replace H := Option.bind_eq_some_iff.mp H
        obtain ⟨t134, A140, H⟩ := H
        replace H : (some (ceq t134.re t134.im (fneg t128.re) (fneg t128.im))) = some r := H
        have A14 := Aside0.mk A140
        clear A140
        obtain rfl := Option.some.inj H
        go_enter Try.func4, Try.ntmps4
        go_wp2_with (first | ((with_reducible refine gate_callee (f := 21) rfl ?_); refine goesL_ (some 14) rfl rfl Try.func21 (by kernel_rfl) rfl #[.int .i64 (Int.tmod a0 1125899906842624), .int .i64 (Int.tmod a1 1125899906842624)] rfl (by (try simp only [List.map_toArray, List.map_cons, List.map_nil]); first | done | rfl | (simp only [List.length_drop, List.length_take]; rfl)) ?_; (with_reducible refine (marigraphlaw13_of.calls (Int.tmod a0 1125899906842624) (Int.tmod a1 1125899906842624) t128 _ A5.out).mono ?_); rintro e w15 ⟨rfl, hb⟩; refine ⟨_, rfl, ?_⟩; have n0_ := Aside0.mk (below_step (by repeat (first | (with_reducible first | exact HB.out | apply below_alloc | apply pw_below_drewN | apply below_drew1) | exact HB.out)) hb); clear HB; have HB := n0_; clear n0_; (try clear hb); (try clear hb2); (try clear hk); (try clear hi)) | ((with_reducible refine gate_callee (f := 20) rfl ?_); refine goesL_ (some 15) rfl rfl Try.func20 (by kernel_rfl) rfl #[] rfl (by (try simp only [List.map_toArray, List.map_cons, List.map_nil]); first | done | rfl | (simp only [List.length_drop, List.length_take]; rfl)) ?_; (with_reducible refine (marigraphlaw13_shown.calls k  true _ A6.out).mono ?_); rintro e w16 ⟨rfl, hb⟩; refine ⟨_, rfl, ?_⟩; have n0_ := Aside0.mk (below_step (by repeat (first | (with_reducible first | exact HB.out | apply below_alloc | apply pw_below_drewN | apply below_drew1) | exact HB.out)) hb); clear HB; have HB := n0_; clear n0_; (try clear hb); (try clear hb2); (try clear hk); (try clear hi)) | (go_at_call 22; (with_reducible refine (turn_By.calls t128 4 t130 _ A8.out).mono ?_); rintro e w17 ⟨rfl, hb⟩; have n0_ := Aside0.mk (below_step (by repeat (first | (with_reducible first | exact HB.out | apply below_alloc | apply pw_below_drewN | apply below_drew1) | exact HB.out)) hb); clear HB; have HB := n0_; clear n0_; (try clear hb); (try clear hb2); (try clear hk); (try clear hi)) | (go_at_call 22; (with_reducible refine (turn_By.calls t128 (wrap64 (a2)) t131 _ A10.out).mono ?_); rintro e w18 ⟨rfl, hb⟩; have n0_ := Aside0.mk (below_step (by repeat (first | (with_reducible first | exact HB.out | apply below_alloc | apply pw_below_drewN | apply below_drew1) | exact HB.out)) hb); clear HB; have HB := n0_; clear n0_; (try clear hb); (try clear hb2); (try clear hk); (try clear hi)) | (go_at_call 22; (with_reducible refine (turn_By.calls t131 (wrap64 (a3)) t132 _ A11.out).mono ?_); rintro e w19 ⟨rfl, hb⟩; have n0_ := Aside0.mk (below_step (by repeat (first | (with_reducible first | exact HB.out | apply below_alloc | apply pw_below_drewN | apply below_drew1) | exact HB.out)) hb); clear HB; have HB := n0_; clear n0_; (try clear hb); (try clear hb2); (try clear hk); (try clear hi)) | (go_at_call 22; (with_reducible refine (turn_By.calls t128 (wrap64 ((wrap64 (a2)) + (wrap64 (a3)))) t133 _ A12.out).mono ?_); rintro e w20 ⟨rfl, hb⟩; have n0_ := Aside0.mk (below_step (by repeat (first | (with_reducible first | exact HB.out | apply below_alloc | apply pw_below_drewN | apply below_drew1) | exact HB.out)) hb); clear HB; have HB := n0_; clear n0_; (try clear hb); (try clear hb2); (try clear hk); (try clear hi)) | (go_at_call 22; (with_reducible refine (turn_By.calls t128 2 t134 _ A14.out).mono ?_); rintro e w21 ⟨rfl, hb⟩; have n0_ := Aside0.mk (below_step (by repeat (first | (with_reducible first | exact HB.out | apply below_alloc | apply pw_below_drewN | apply below_drew1) | exact HB.out)) hb); clear HB; have HB := n0_; clear n0_; (try clear hb); (try clear hb2); (try clear hk); (try clear hi)))
        go_ret
        exact ⟨by first | rfl | (simp [errW_none, errW_some] <;> rfl) | (simp [*, errW_none, errW_some] <;> rfl), by repeat (first | (with_reducible first | exact HB.out | apply below_alloc | apply pw_below_drewN | apply below_drew1) | exact HB.out)⟩
      · rw [if_neg c13] at H
        have c13b0 : (ceq t132.re t132.im t133.re t133.im) = false := by simpa using c13
        clear c13
        obtain rfl := Option.some.inj H
        go_enter Try.func4, Try.ntmps4
        go_wp2_with (first | ((with_reducible refine gate_callee (f := 21) rfl ?_); refine goesL_ (some 14) rfl rfl Try.func21 (by kernel_rfl) rfl #[.int .i64 (Int.tmod a0 1125899906842624), .int .i64 (Int.tmod a1 1125899906842624)] rfl (by (try simp only [List.map_toArray, List.map_cons, List.map_nil]); first | done | rfl | (simp only [List.length_drop, List.length_take]; rfl)) ?_; (with_reducible refine (marigraphlaw13_of.calls (Int.tmod a0 1125899906842624) (Int.tmod a1 1125899906842624) t128 _ A5.out).mono ?_); rintro e w22 ⟨rfl, hb⟩; refine ⟨_, rfl, ?_⟩; have n0_ := Aside0.mk (below_step (by repeat (first | (with_reducible first | exact HB.out | apply below_alloc | apply pw_below_drewN | apply below_drew1) | exact HB.out)) hb); clear HB; have HB := n0_; clear n0_; (try clear hb); (try clear hb2); (try clear hk); (try clear hi)) | ((with_reducible refine gate_callee (f := 20) rfl ?_); refine goesL_ (some 15) rfl rfl Try.func20 (by kernel_rfl) rfl #[] rfl (by (try simp only [List.map_toArray, List.map_cons, List.map_nil]); first | done | rfl | (simp only [List.length_drop, List.length_take]; rfl)) ?_; (with_reducible refine (marigraphlaw13_shown.calls k  true _ A6.out).mono ?_); rintro e w23 ⟨rfl, hb⟩; refine ⟨_, rfl, ?_⟩; have n0_ := Aside0.mk (below_step (by repeat (first | (with_reducible first | exact HB.out | apply below_alloc | apply pw_below_drewN | apply below_drew1) | exact HB.out)) hb); clear HB; have HB := n0_; clear n0_; (try clear hb); (try clear hb2); (try clear hk); (try clear hi)) | (go_at_call 22; (with_reducible refine (turn_By.calls t128 4 t130 _ A8.out).mono ?_); rintro e w24 ⟨rfl, hb⟩; have n0_ := Aside0.mk (below_step (by repeat (first | (with_reducible first | exact HB.out | apply below_alloc | apply pw_below_drewN | apply below_drew1) | exact HB.out)) hb); clear HB; have HB := n0_; clear n0_; (try clear hb); (try clear hb2); (try clear hk); (try clear hi)) | (go_at_call 22; (with_reducible refine (turn_By.calls t128 (wrap64 (a2)) t131 _ A10.out).mono ?_); rintro e w25 ⟨rfl, hb⟩; have n0_ := Aside0.mk (below_step (by repeat (first | (with_reducible first | exact HB.out | apply below_alloc | apply pw_below_drewN | apply below_drew1) | exact HB.out)) hb); clear HB; have HB := n0_; clear n0_; (try clear hb); (try clear hb2); (try clear hk); (try clear hi)) | (go_at_call 22; (with_reducible refine (turn_By.calls t131 (wrap64 (a3)) t132 _ A11.out).mono ?_); rintro e w26 ⟨rfl, hb⟩; have n0_ := Aside0.mk (below_step (by repeat (first | (with_reducible first | exact HB.out | apply below_alloc | apply pw_below_drewN | apply below_drew1) | exact HB.out)) hb); clear HB; have HB := n0_; clear n0_; (try clear hb); (try clear hb2); (try clear hk); (try clear hi)) | (go_at_call 22; (with_reducible refine (turn_By.calls t128 (wrap64 ((wrap64 (a2)) + (wrap64 (a3)))) t133 _ A12.out).mono ?_); rintro e w27 ⟨rfl, hb⟩; have n0_ := Aside0.mk (below_step (by repeat (first | (with_reducible first | exact HB.out | apply below_alloc | apply pw_below_drewN | apply below_drew1) | exact HB.out)) hb); clear HB; have HB := n0_; clear n0_; (try clear hb); (try clear hb2); (try clear hk); (try clear hi)))
        go_ret
        exact ⟨by first | rfl | (simp [errW_none, errW_some] <;> rfl) | (simp [*, errW_none, errW_some] <;> rfl), by repeat (first | (with_reducible first | exact HB.out | apply below_alloc | apply pw_below_drewN | apply below_drew1) | exact HB.out)⟩
    · rw [if_neg c9] at H
      have c9b0 : (ceq t130.re t130.im t128.re t128.im) = false := by simpa using c9
      clear c9
      obtain rfl := Option.some.inj H
      go_enter Try.func4, Try.ntmps4
      go_wp2_with (first | ((with_reducible refine gate_callee (f := 21) rfl ?_); refine goesL_ (some 14) rfl rfl Try.func21 (by kernel_rfl) rfl #[.int .i64 (Int.tmod a0 1125899906842624), .int .i64 (Int.tmod a1 1125899906842624)] rfl (by (try simp only [List.map_toArray, List.map_cons, List.map_nil]); first | done | rfl | (simp only [List.length_drop, List.length_take]; rfl)) ?_; (with_reducible refine (marigraphlaw13_of.calls (Int.tmod a0 1125899906842624) (Int.tmod a1 1125899906842624) t128 _ A5.out).mono ?_); rintro e w28 ⟨rfl, hb⟩; refine ⟨_, rfl, ?_⟩; have n0_ := Aside0.mk (below_step (by repeat (first | (with_reducible first | exact HB.out | apply below_alloc | apply pw_below_drewN | apply below_drew1) | exact HB.out)) hb); clear HB; have HB := n0_; clear n0_; (try clear hb); (try clear hb2); (try clear hk); (try clear hi)) | ((with_reducible refine gate_callee (f := 20) rfl ?_); refine goesL_ (some 15) rfl rfl Try.func20 (by kernel_rfl) rfl #[] rfl (by (try simp only [List.map_toArray, List.map_cons, List.map_nil]); first | done | rfl | (simp only [List.length_drop, List.length_take]; rfl)) ?_; (with_reducible refine (marigraphlaw13_shown.calls k  true _ A6.out).mono ?_); rintro e w29 ⟨rfl, hb⟩; refine ⟨_, rfl, ?_⟩; have n0_ := Aside0.mk (below_step (by repeat (first | (with_reducible first | exact HB.out | apply below_alloc | apply pw_below_drewN | apply below_drew1) | exact HB.out)) hb); clear HB; have HB := n0_; clear n0_; (try clear hb); (try clear hb2); (try clear hk); (try clear hi)) | (go_at_call 22; (with_reducible refine (turn_By.calls t128 4 t130 _ A8.out).mono ?_); rintro e w30 ⟨rfl, hb⟩; have n0_ := Aside0.mk (below_step (by repeat (first | (with_reducible first | exact HB.out | apply below_alloc | apply pw_below_drewN | apply below_drew1) | exact HB.out)) hb); clear HB; have HB := n0_; clear n0_; (try clear hb); (try clear hb2); (try clear hk); (try clear hi)))
      go_ret
      exact ⟨by first | rfl | (simp [errW_none, errW_some] <;> rfl) | (simp [*, errW_none, errW_some] <;> rfl), by repeat (first | (with_reducible first | exact HB.out | apply below_alloc | apply pw_below_drewN | apply below_drew1) | exact HB.out)⟩
  · replace c7 := Bool.eq_false_iff.mpr c7
    subst c7
    have H1 : (some false) = some r := by rw [if_neg (show ¬ (false = true) by decide)] at H; exact H
    clear H
    have H := H1
    clear H1
    obtain rfl := Option.some.inj H
    go_enter Try.func4, Try.ntmps4
    go_wp2_with (first | ((with_reducible refine gate_callee (f := 21) rfl ?_); refine goesL_ (some 14) rfl rfl Try.func21 (by kernel_rfl) rfl #[.int .i64 (Int.tmod a0 1125899906842624), .int .i64 (Int.tmod a1 1125899906842624)] rfl (by (try simp only [List.map_toArray, List.map_cons, List.map_nil]); first | done | rfl | (simp only [List.length_drop, List.length_take]; rfl)) ?_; (with_reducible refine (marigraphlaw13_of.calls (Int.tmod a0 1125899906842624) (Int.tmod a1 1125899906842624) t128 _ A5.out).mono ?_); rintro e w31 ⟨rfl, hb⟩; refine ⟨_, rfl, ?_⟩; have n0_ := Aside0.mk (below_step (by repeat (first | (with_reducible first | exact HB.out | apply below_alloc | apply pw_below_drewN | apply below_drew1) | exact HB.out)) hb); clear HB; have HB := n0_; clear n0_; (try clear hb); (try clear hb2); (try clear hk); (try clear hi)) | ((with_reducible refine gate_callee (f := 20) rfl ?_); refine goesL_ (some 15) rfl rfl Try.func20 (by kernel_rfl) rfl #[] rfl (by (try simp only [List.map_toArray, List.map_cons, List.map_nil]); first | done | rfl | (simp only [List.length_drop, List.length_take]; rfl)) ?_; (with_reducible refine (marigraphlaw13_shown.calls k  false _ A6.out).mono ?_); rintro e w32 ⟨rfl, hb⟩; refine ⟨_, rfl, ?_⟩; have n0_ := Aside0.mk (below_step (by repeat (first | (with_reducible first | exact HB.out | apply below_alloc | apply pw_below_drewN | apply below_drew1) | exact HB.out)) hb); clear HB; have HB := n0_; clear n0_; (try clear hb); (try clear hb2); (try clear hk); (try clear hi)))
    go_ret
    exact ⟨by first | rfl | (simp [errW_none, errW_some] <;> rfl) | (simp [*, errW_none, errW_some] <;> rfl), by repeat (first | (with_reducible first | exact HB.out | apply below_alloc | apply pw_below_drewN | apply below_drew1) | exact HB.out)⟩

/-- THE ONE PURE STATEMENT of marigraphlaw13_TurnRound: yours. -/
def marigraphlaw13_TurnRound.Pure : Prop := ∀ (a0 : Int) (a1 : Int) (a2 : Int) (a3 : Int), (Lit.int .i64 a0).wf = true → (Lit.int .i64 a1).wf = true → (Lit.int .i32 a2).wf = true → (Lit.int .i32 a3).wf = true → ∃ k, marigraphlaw13_TurnRound.f k a0 a1 a2 a3 = some true
theorem marigraphlaw13_TurnRound.walk (P : marigraphlaw13_TurnRound.Pure) (a0 : Int) (a1 : Int) (a2 : Int) (a3 : Int) (w : World) (w0 : (Lit.int .i64 a0).wf = true) (w1 : (Lit.int .i64 a1).wf = true) (w2 : (Lit.int .i32 a2).wf = true) (w3 : (Lit.int .i32 a3).wf = true) :
    Calls Try.prog 4 #[.int .i64 a0, .int .i64 a1, .int .i32 a2, .int .i32 a3] w fun e w' => e = .returned (.bool true) ∧ Below w.heap.size w w' := by
  obtain ⟨k, h⟩ := P a0 a1 a2 a3 w0 w1 w2 w3
  refine (marigraphlaw13_TurnRound.calls k a0 a1 a2 a3 true w h).mono ?_
  rintro e w' ⟨rfl, hd⟩
  exact ⟨rfl, hd⟩

end Go.Proofs.Ytjkpdjadbeidnaa.T
