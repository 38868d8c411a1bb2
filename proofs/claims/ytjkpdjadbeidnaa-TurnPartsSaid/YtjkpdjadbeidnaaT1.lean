-- By xprint.py, out of the translation's own print. Lean checks it.
import Derived.Test.YtjkpdjadbeidnaaT0
namespace Go.Proofs.Ytjkpdjadbeidnaa.T
open Go.RowKit Go.Proofs.YtjkpdjadbeidnaaW.PrintWords Go.Proofs.YtjkpdjadbeidnaaW.PrintLast Go.Proofs.YtjkpdjadbeidnaaW.PrintMore Go.Proofs.Ytjkpdjadbeidnaa.Flo
attribute [local go_sem high] x_neg x_cneg x_add x_cadd x_eq x_ne x_ge x_le x_ceq x_cne x_ofi x_toi
attribute [local go_sem] max2_int min2_int max_two min_two max_three min_three max_four min_four   -- for this text's walks alone
set_option linter.unusedVariables false
set_option linter.unusedSimpArgs false

/-! ### turn_Quarter: function 18 -/
def turn_Quarter.f (a0 : Int) (a1 : Int) : Option (Int × Bool) := if a1 < 4 then (some (0, false)) else (if a1 > 1099511627776 then (some (0, false)) else (if (Int.tmod a1 4) = 0 then (if a1 = 0 then (none) else (if (wrap64 (Int.tdiv a1 4)) = 0 then (none) else (some (wrap64 (Int.tdiv (Int.tmod (wrap64 ((Int.tmod a0 a1) + a1)) a1) (wrap64 (Int.tdiv a1 4))), true)))) else (some (0, false))))
set_option maxHeartbeats 8000000 in
set_option maxRecDepth 100000 in
theorem turn_Quarter.calls (a0 : Int) (a1 : Int) (r1 : Int) (r2 : Bool) (w : World) (h : turn_Quarter.f a0 a1 = some (r1, r2)) :
    Calls Try.prog 18 #[.int .i64 a0, .int .i64 a1] w fun e w' => e = .returned (.tuple #[.int .i64 r1, .bool r2]) ∧ Drawn0 w w' := by
  have H : (if a1 < 4 then (some (0, false)) else (if a1 > 1099511627776 then (some (0, false)) else (if (Int.tmod a1 4) = 0 then (if a1 = 0 then (none) else (if (wrap64 (Int.tdiv a1 4)) = 0 then (none) else (some (wrap64 (Int.tdiv (Int.tmod (wrap64 ((Int.tmod a0 a1) + a1)) a1) (wrap64 (Int.tdiv a1 4))), true)))) else (some (0, false))))) = some (r1, r2) := h
  clear h
  by_cases c3 : a1 < 4
  · rw [if_pos c3] at H
    have c3b0 : decide (a1 < 4) = true := decide_eq_true c3
    clear c3
    simp only [Option.some.injEq, Prod.mk.injEq] at H
    obtain ⟨rfl, rfl⟩ := H
    go_enter Try.func18, Try.ntmps18
    go_wp2
    go_ret2
    exact ⟨by first | rfl | (simp; done) | (simp [*]; done) | (simp <;> grind), by repeat (first | exact Drawn0.refl _ | apply Drawn0.step)⟩
  · rw [if_neg c3] at H
    have c3b0 : decide (a1 < 4) = false := decide_eq_false c3
    clear c3
    by_cases c4 : a1 > 1099511627776
    · rw [if_pos c4] at H
      have c4b0 : decide (1099511627776 < a1) = true := decide_eq_true c4
      clear c4
      simp only [Option.some.injEq, Prod.mk.injEq] at H
      obtain ⟨rfl, rfl⟩ := H
      go_enter Try.func18, Try.ntmps18
      go_wp2
      go_ret2
      exact ⟨by first | rfl | (simp; done) | (simp [*]; done) | (simp <;> grind), by repeat (first | exact Drawn0.refl _ | apply Drawn0.step)⟩
    · rw [if_neg c4] at H
      have c4b0 : decide (1099511627776 < a1) = false := decide_eq_false c4
      clear c4
      by_cases c5 : (Int.tmod a1 4) = 0
      · rw [if_pos c5] at H
        have c5b0 : ((Int.tmod a1 4) == 0) = true := beq_iff_eq.mpr c5
        have c5b1 : ((Int.tmod a1 4) != 0) = false := bne_eq_false_iff_eq.mpr c5
        clear c5
        by_cases c6 : a1 = 0
        · rw [if_pos c6] at H
          exact absurd H (by simp)
        · rw [if_neg c6] at H
          have c6b0 : (a1 == 0) = false := beq_eq_false_iff_ne.mpr c6
          have c6b1 : (a1 != 0) = true := bne_iff_ne.mpr c6
          by_cases c7 : (wrap64 (Int.tdiv a1 4)) = 0
          · rw [if_pos c7] at H
            exact absurd H (by simp)
          · rw [if_neg c7] at H
            have c7b0 : ((wrap64 (Int.tdiv a1 4)) == 0) = false := beq_eq_false_iff_ne.mpr c7
            have c7b1 : ((wrap64 (Int.tdiv a1 4)) != 0) = true := bne_iff_ne.mpr c7
            simp only [Option.some.injEq, Prod.mk.injEq] at H
            obtain ⟨rfl, rfl⟩ := H
            go_enter Try.func18, Try.ntmps18
            go_wp2
            go_ret2
            exact ⟨by first | rfl | (simp; done) | (simp [*]; done) | (simp <;> grind), by repeat (first | exact Drawn0.refl _ | apply Drawn0.step)⟩
      · rw [if_neg c5] at H
        have c5b0 : ((Int.tmod a1 4) == 0) = false := beq_eq_false_iff_ne.mpr c5
        have c5b1 : ((Int.tmod a1 4) != 0) = true := bne_iff_ne.mpr c5
        simp only [Option.some.injEq, Prod.mk.injEq] at H
        obtain ⟨rfl, rfl⟩ := H
        go_enter Try.func18, Try.ntmps18
        go_wp2
        go_ret2
        exact ⟨by first | rfl | (simp; done) | (simp [*]; done) | (simp <;> grind), by repeat (first | exact Drawn0.refl _ | apply Drawn0.step)⟩

end Go.Proofs.Ytjkpdjadbeidnaa.T
