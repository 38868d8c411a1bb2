-- By xprint.py, out of the translation's own print. Lean checks it.
import Derived.Test.YtjkpdjadbeidnaaT0
namespace Go.Proofs.Ytjkpdjadbeidnaa.T
open Go.RowKit Go.Proofs.YtjkpdjadbeidnaaW.PrintWords Go.Proofs.YtjkpdjadbeidnaaW.PrintLast Go.Proofs.YtjkpdjadbeidnaaW.PrintMore Go.Proofs.Ytjkpdjadbeidnaa.Flo
attribute [local go_sem high] x_neg x_cneg x_add x_cadd x_eq x_ne x_ge x_le x_ceq x_cne x_ofi x_toi
attribute [local go_sem] max2_int min2_int max_two min_two max_three min_three max_four min_four   -- for this text's walks alone
set_option linter.unusedVariables false
set_option linter.unusedSimpArgs false

/-! ### turn_plain: function 41 -/
def turn_plain.f (a0 : CB) : Option (CB) := if fok a0.re 0 = true then (if fok a0.im 0 = true then (some (⟨fadd a0.re 0, fadd a0.im 0⟩ : CB)) else (none)) else (none)
set_option maxHeartbeats 8000000 in
set_option maxRecDepth 100000 in
theorem turn_plain.calls (a0 : CB) (r : CB) (w : World) (h : turn_plain.f a0 = some r) :
    Calls Try.prog 41 #[cv a0] w fun e w' => e = .returned (cv r) ∧ Below w.heap.size w w' := by
  have HB := Aside0.mk (Below.refl w.heap.size w)
  have H : (if fok a0.re 0 = true then (if fok a0.im 0 = true then (some (⟨fadd a0.re 0, fadd a0.im 0⟩ : CB)) else (none)) else (none)) = some r := h
  clear h
  by_cases c2 : fok a0.re 0 = true
  · rw [if_pos c2] at H
    have c2b0 := eq_true c2
    have c2b1 : decide (fok a0.re 0 = true) = true := decide_eq_true c2
    clear c2
    by_cases c3 : fok a0.im 0 = true
    · rw [if_pos c3] at H
      have c3b0 := eq_true c3
      have c3b1 : decide (fok a0.im 0 = true) = true := decide_eq_true c3
      clear c3
      obtain rfl := Option.some.inj H
      go_enter Try.func41, Try.ntmps41
      go_wp2
      go_ret
      exact ⟨by first | rfl | (simp [errW_none, errW_some] <;> rfl) | (simp [*, errW_none, errW_some] <;> rfl), by repeat (first | (with_reducible first | exact HB.out | apply below_alloc | apply pw_below_drewN | apply below_drew1) | exact HB.out)⟩
    · rw [if_neg c3] at H
      exact absurd H (by simp)
  · rw [if_neg c2] at H
    exact absurd H (by simp)

end Go.Proofs.Ytjkpdjadbeidnaa.T
