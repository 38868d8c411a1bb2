-- By xprint.py, out of the translation's own print. Lean checks it.
import Derived.Test.YtjkpdjadbeidnaaT0
namespace Go.Proofs.Ytjkpdjadbeidnaa.T
open Go.RowKit Go.Proofs.YtjkpdjadbeidnaaW.PrintWords Go.Proofs.YtjkpdjadbeidnaaW.PrintLast Go.Proofs.YtjkpdjadbeidnaaW.PrintMore Go.Proofs.Ytjkpdjadbeidnaa.Flo
attribute [local go_sem high] x_neg x_cneg x_add x_cadd x_eq x_ne x_ge x_le x_ceq x_cne x_ofi x_toi
attribute [local go_sem] max2_int min2_int max_two min_two max_three min_three max_four min_four   -- for this text's walks alone
set_option linter.unusedVariables false
set_option linter.unusedSimpArgs false

/-! ### turn_whole: function 42 -/
def turn_whole.f (a0 : Nat) : Option (Int × Bool) := if (fge a0 14064741636278059008) = true then (if ((fle a0 4841369599423283200) = true) then (if ftok a0 = true then (if (fne a0 (fofi (ftoi a0))) = true then (some (0, false)) else (some (ftoi a0, true))) else (none)) else (some (0, false))) else (some (0, false))
set_option maxHeartbeats 8000000 in
set_option maxRecDepth 100000 in
theorem turn_whole.calls (a0 : Nat) (r1 : Int) (r2 : Bool) (w : World) (h : turn_whole.f a0 = some (r1, r2)) :
    Calls Try.prog 42 #[.float .f64 a0] w fun e w' => e = .returned (.tuple #[.int .i64 r1, .bool r2]) ∧ Drawn0 w w' := by
  have H : (if (fge a0 14064741636278059008) = true then (if ((fle a0 4841369599423283200) = true) then (if ftok a0 = true then (if (fne a0 (fofi (ftoi a0))) = true then (some (0, false)) else (some (ftoi a0, true))) else (none)) else (some (0, false))) else (some (0, false))) = some (r1, r2) := h
  clear h
  by_cases c2 : (fge a0 14064741636278059008) = true
  · rw [if_pos c2] at H
    have c2b0 : (fge a0 14064741636278059008) = true := c2
    clear c2
    by_cases c3 : ((fle a0 4841369599423283200) = true)
    · rw [if_pos c3] at H
      have c3b0 : (fle a0 4841369599423283200) = true := c3
      clear c3
      by_cases c4 : ftok a0 = true
      · rw [if_pos c4] at H
        have c4b0 := eq_true c4
        have c4b1 : decide (ftok a0 = true) = true := decide_eq_true c4
        clear c4
        by_cases c5 : (fne a0 (fofi (ftoi a0))) = true
        · rw [if_pos c5] at H
          have c5b0 : (fne a0 (fofi (ftoi a0))) = true := c5
          clear c5
          simp only [Option.some.injEq, Prod.mk.injEq] at H
          obtain ⟨rfl, rfl⟩ := H
          go_enter Try.func42, Try.ntmps42
          go_wp2
          go_ret2
          exact ⟨by first | rfl | (simp; done) | (simp [*]; done) | (simp <;> grind), by repeat (first | exact Drawn0.refl _ | apply Drawn0.step)⟩
        · rw [if_neg c5] at H
          have c5b0 : (fne a0 (fofi (ftoi a0))) = false := by simpa using c5
          clear c5
          simp only [Option.some.injEq, Prod.mk.injEq] at H
          obtain ⟨rfl, rfl⟩ := H
          go_enter Try.func42, Try.ntmps42
          go_wp2
          go_ret2
          exact ⟨by first | rfl | (simp; done) | (simp [*]; done) | (simp <;> grind), by repeat (first | exact Drawn0.refl _ | apply Drawn0.step)⟩
      · rw [if_neg c4] at H
        exact absurd H (by simp)
    · rw [if_neg c3] at H
      have c3b0 : (fle a0 4841369599423283200) = false := by simpa using c3
      clear c3
      simp only [Option.some.injEq, Prod.mk.injEq] at H
      obtain ⟨rfl, rfl⟩ := H
      go_enter Try.func42, Try.ntmps42
      go_wp2
      go_ret2
      exact ⟨by first | rfl | (simp; done) | (simp [*]; done) | (simp <;> grind), by repeat (first | exact Drawn0.refl _ | apply Drawn0.step)⟩
  · rw [if_neg c2] at H
    have c2b0 : (fge a0 14064741636278059008) = false := by simpa using c2
    clear c2
    simp only [Option.some.injEq, Prod.mk.injEq] at H
    obtain ⟨rfl, rfl⟩ := H
    go_enter Try.func42, Try.ntmps42
    go_wp2
    go_ret2
    exact ⟨by first | rfl | (simp; done) | (simp [*]; done) | (simp <;> grind), by repeat (first | exact Drawn0.refl _ | apply Drawn0.step)⟩

end Go.Proofs.Ytjkpdjadbeidnaa.T
