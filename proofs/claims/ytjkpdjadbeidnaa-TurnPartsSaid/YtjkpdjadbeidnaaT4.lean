-- By xprint.py, out of the translation's own print. Lean checks it.
import Derived.Test.YtjkpdjadbeidnaaT0
import Derived.Test.YtjkpdjadbeidnaaT3
namespace Go.Proofs.Ytjkpdjadbeidnaa.T
open Go.RowKit Go.Proofs.YtjkpdjadbeidnaaW.PrintWords Go.Proofs.YtjkpdjadbeidnaaW.PrintLast Go.Proofs.YtjkpdjadbeidnaaW.PrintMore Go.Proofs.Ytjkpdjadbeidnaa.Flo
attribute [local go_sem high] x_neg x_cneg x_add x_cadd x_eq x_ne x_ge x_le x_ceq x_cne x_ofi x_toi
attribute [local go_sem] max2_int min2_int max_two min_two max_three min_three max_four min_four   -- for this text's walks alone
set_option linter.unusedVariables false
set_option linter.unusedSimpArgs false

/-! ### turn_By: function 22 -/
def turn_By.f (a0 : CB) (a1 : Int) : Option (CB) := if (Int.tmod (wrap64 ((Int.tmod a1 4) + 4)) 4) = 1 then ((turn_plain.f (⟨fneg a0.im, a0.re⟩ : CB)).bind fun t101 => (some t101)) else (if (Int.tmod (wrap64 ((Int.tmod a1 4) + 4)) 4) = 2 then ((turn_plain.f (⟨fneg a0.re, fneg a0.im⟩ : CB)).bind fun t102 => (some t102)) else (if (Int.tmod (wrap64 ((Int.tmod a1 4) + 4)) 4) = 3 then ((turn_plain.f (⟨a0.im, fneg a0.re⟩ : CB)).bind fun t103 => (some t103)) else ((turn_plain.f a0).bind fun t104 => (some t104))))
set_option maxHeartbeats 8000000 in
set_option maxRecDepth 100000 in
theorem turn_By.calls (a0 : CB) (a1 : Int) (r : CB) (w : World) (h : turn_By.f a0 a1 = some r) :
    Calls Try.prog 22 #[cv a0, .int .i64 a1] w fun e w' => e = .returned (cv r) ∧ Below w.heap.size w w' := by
  have HB := Aside0.mk (Below.refl w.heap.size w)
  have H : (if (Int.tmod (wrap64 ((Int.tmod a1 4) + 4)) 4) = 1 then ((turn_plain.f (⟨fneg a0.im, a0.re⟩ : CB)).bind fun t101 => (some t101)) else (if (Int.tmod (wrap64 ((Int.tmod a1 4) + 4)) 4) = 2 then ((turn_plain.f (⟨fneg a0.re, fneg a0.im⟩ : CB)).bind fun t102 => (some t102)) else (if (Int.tmod (wrap64 ((Int.tmod a1 4) + 4)) 4) = 3 then ((turn_plain.f (⟨a0.im, fneg a0.re⟩ : CB)).bind fun t103 => (some t103)) else ((turn_plain.f a0).bind fun t104 => (some t104))))) = some r := h
  clear h
  by_cases c3 : (Int.tmod (wrap64 ((Int.tmod a1 4) + 4)) 4) = 1
  · rw [if_pos c3] at H
    have c3b0 : ((Int.tmod (wrap64 ((Int.tmod a1 4) + 4)) 4) == 1) = true := beq_iff_eq.mpr c3
    have c3b1 : ((Int.tmod (wrap64 ((Int.tmod a1 4) + 4)) 4) != 1) = false := bne_eq_false_iff_eq.mpr c3
    clear c3
    replace H := Option.bind_eq_some_iff.mp H
    obtain ⟨t101, A40, H⟩ := H
    replace H : (some t101) = some r := H
    have A4 := Aside0.mk A40
    clear A40
    obtain rfl := Option.some.inj H
    go_enter Try.func22, Try.ntmps22
    go_wp2_with (first | ((with_reducible refine gate_callee (f := 41) rfl ?_); refine goesL_ (some 30) rfl rfl Try.func41 (by kernel_rfl) rfl #[cv (⟨fneg a0.im, a0.re⟩ : CB)] rfl (by (try simp only [List.map_toArray, List.map_cons, List.map_nil]); first | done | rfl | (simp only [List.length_drop, List.length_take]; rfl)) ?_; (with_reducible refine (turn_plain.calls (⟨fneg a0.im, a0.re⟩ : CB) t101 _ A4.out).mono ?_); rintro e w5 ⟨rfl, hb⟩; refine ⟨_, rfl, ?_⟩; have n0_ := Aside0.mk (below_step (by repeat (first | (with_reducible first | exact HB.out | apply below_alloc | apply pw_below_drewN | apply below_drew1) | exact HB.out)) hb); clear HB; have HB := n0_; clear n0_; (try clear hb); (try clear hb2); (try clear hk); (try clear hi)))
    go_ret
    exact ⟨by first | rfl | (simp [errW_none, errW_some] <;> rfl) | (simp [*, errW_none, errW_some] <;> rfl), by repeat (first | (with_reducible first | exact HB.out | apply below_alloc | apply pw_below_drewN | apply below_drew1) | exact HB.out)⟩
  · rw [if_neg c3] at H
    have c3b0 : ((Int.tmod (wrap64 ((Int.tmod a1 4) + 4)) 4) == 1) = false := beq_eq_false_iff_ne.mpr c3
    have c3b1 : ((Int.tmod (wrap64 ((Int.tmod a1 4) + 4)) 4) != 1) = true := bne_iff_ne.mpr c3
    by_cases c6 : (Int.tmod (wrap64 ((Int.tmod a1 4) + 4)) 4) = 2
    · rw [if_pos c6] at H
      have c6b0 : ((Int.tmod (wrap64 ((Int.tmod a1 4) + 4)) 4) == 2) = true := beq_iff_eq.mpr c6
      have c6b1 : ((Int.tmod (wrap64 ((Int.tmod a1 4) + 4)) 4) != 2) = false := bne_eq_false_iff_eq.mpr c6
      clear c6
      replace H := Option.bind_eq_some_iff.mp H
      obtain ⟨t102, A70, H⟩ := H
      replace H : (some t102) = some r := H
      have A7 := Aside0.mk A70
      clear A70
      obtain rfl := Option.some.inj H
      go_enter Try.func22, Try.ntmps22
      go_wp2_with (first | ((with_reducible refine gate_callee (f := 41) rfl ?_); refine goesL_ (some 30) rfl rfl Try.func41 (by kernel_rfl) rfl #[cv (⟨fneg a0.re, fneg a0.im⟩ : CB)] rfl (by (try simp only [List.map_toArray, List.map_cons, List.map_nil]); first | done | rfl | (simp only [List.length_drop, List.length_take]; rfl)) ?_; (with_reducible refine (turn_plain.calls (⟨fneg a0.re, fneg a0.im⟩ : CB) t102 _ A7.out).mono ?_); rintro e w8 ⟨rfl, hb⟩; refine ⟨_, rfl, ?_⟩; have n0_ := Aside0.mk (below_step (by repeat (first | (with_reducible first | exact HB.out | apply below_alloc | apply pw_below_drewN | apply below_drew1) | exact HB.out)) hb); clear HB; have HB := n0_; clear n0_; (try clear hb); (try clear hb2); (try clear hk); (try clear hi)))
      go_ret
      exact ⟨by first | rfl | (simp [errW_none, errW_some] <;> rfl) | (simp [*, errW_none, errW_some] <;> rfl), by repeat (first | (with_reducible first | exact HB.out | apply below_alloc | apply pw_below_drewN | apply below_drew1) | exact HB.out)⟩
    · rw [if_neg c6] at H
      have c6b0 : ((Int.tmod (wrap64 ((Int.tmod a1 4) + 4)) 4) == 2) = false := beq_eq_false_iff_ne.mpr c6
      have c6b1 : ((Int.tmod (wrap64 ((Int.tmod a1 4) + 4)) 4) != 2) = true := bne_iff_ne.mpr c6
      by_cases c9 : (Int.tmod (wrap64 ((Int.tmod a1 4) + 4)) 4) = 3
      · rw [if_pos c9] at H
        have c9b0 : ((Int.tmod (wrap64 ((Int.tmod a1 4) + 4)) 4) == 3) = true := beq_iff_eq.mpr c9
        have c9b1 : ((Int.tmod (wrap64 ((Int.tmod a1 4) + 4)) 4) != 3) = false := bne_eq_false_iff_eq.mpr c9
        clear c9
        replace H := Option.bind_eq_some_iff.mp H
        obtain ⟨t103, A100, H⟩ := H
        replace H : (some t103) = some r := H
        have A10 := Aside0.mk A100
        clear A100
        obtain rfl := Option.some.inj H
        go_enter Try.func22, Try.ntmps22
        go_wp2_with (first | ((with_reducible refine gate_callee (f := 41) rfl ?_); refine goesL_ (some 30) rfl rfl Try.func41 (by kernel_rfl) rfl #[cv (⟨a0.im, fneg a0.re⟩ : CB)] rfl (by (try simp only [List.map_toArray, List.map_cons, List.map_nil]); first | done | rfl | (simp only [List.length_drop, List.length_take]; rfl)) ?_; (with_reducible refine (turn_plain.calls (⟨a0.im, fneg a0.re⟩ : CB) t103 _ A10.out).mono ?_); rintro e w11 ⟨rfl, hb⟩; refine ⟨_, rfl, ?_⟩; have n0_ := Aside0.mk (below_step (by repeat (first | (with_reducible first | exact HB.out | apply below_alloc | apply pw_below_drewN | apply below_drew1) | exact HB.out)) hb); clear HB; have HB := n0_; clear n0_; (try clear hb); (try clear hb2); (try clear hk); (try clear hi)))
        go_ret
        exact ⟨by first | rfl | (simp [errW_none, errW_some] <;> rfl) | (simp [*, errW_none, errW_some] <;> rfl), by repeat (first | (with_reducible first | exact HB.out | apply below_alloc | apply pw_below_drewN | apply below_drew1) | exact HB.out)⟩
      · rw [if_neg c9] at H
        have c9b0 : ((Int.tmod (wrap64 ((Int.tmod a1 4) + 4)) 4) == 3) = false := beq_eq_false_iff_ne.mpr c9
        have c9b1 : ((Int.tmod (wrap64 ((Int.tmod a1 4) + 4)) 4) != 3) = true := bne_iff_ne.mpr c9
        replace H := Option.bind_eq_some_iff.mp H
        obtain ⟨t104, A120, H⟩ := H
        replace H : (some t104) = some r := H
        have A12 := Aside0.mk A120
        clear A120
        obtain rfl := Option.some.inj H
        go_enter Try.func22, Try.ntmps22
        go_wp2_with (first | ((with_reducible refine gate_callee (f := 41) rfl ?_); refine goesL_ (some 30) rfl rfl Try.func41 (by kernel_rfl) rfl #[cv a0] rfl (by (try simp only [List.map_toArray, List.map_cons, List.map_nil]); first | done | rfl | (simp only [List.length_drop, List.length_take]; rfl)) ?_; (with_reducible refine (turn_plain.calls a0 t104 _ A12.out).mono ?_); rintro e w13 ⟨rfl, hb⟩; refine ⟨_, rfl, ?_⟩; have n0_ := Aside0.mk (below_step (by repeat (first | (with_reducible first | exact HB.out | apply below_alloc | apply pw_below_drewN | apply below_drew1) | exact HB.out)) hb); clear HB; have HB := n0_; clear n0_; (try clear hb); (try clear hb2); (try clear hk); (try clear hi)))
        go_ret
        exact ⟨by first | rfl | (simp [errW_none, errW_some] <;> rfl) | (simp [*, errW_none, errW_some] <;> rfl), by repeat (first | (with_reducible first | exact HB.out | apply below_alloc | apply pw_below_drewN | apply below_drew1) | exact HB.out)⟩

end Go.Proofs.Ytjkpdjadbeidnaa.T
