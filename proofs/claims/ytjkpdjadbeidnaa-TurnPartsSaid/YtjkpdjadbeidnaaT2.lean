-- By xprint.py, out of the translation's own print. Lean checks it.
import Derived.Test.YtjkpdjadbeidnaaT0
namespace Go.Proofs.Ytjkpdjadbeidnaa.T
open Go.RowKit Go.Proofs.YtjkpdjadbeidnaaW.PrintWords Go.Proofs.YtjkpdjadbeidnaaW.PrintLast Go.Proofs.YtjkpdjadbeidnaaW.PrintMore Go.Proofs.Ytjkpdjadbeidnaa.Flo
attribute [local go_sem high] x_neg x_cneg x_add x_cadd x_eq x_ne x_ge x_le x_ceq x_cne x_ofi x_toi
attribute [local go_sem] max2_int min2_int max_two min_two max_three min_three max_four min_four   -- for this text's walks alone
set_option linter.unusedVariables false
set_option linter.unusedSimpArgs false

/-! ### marigraphref13_Quarter: function 19 -/
def marigraphref13_Quarter.j0 : Nat → Int → Int → Bool → Option (Int × Bool)
  | 0, _, _, _ => none
  | k + 1, x0, x1, x17 => if x17 = true then (some (0, false)) else (if x1 = 0 then (none) else (if (Int.tmod x0 x1) < 0 then (if (wrap64 (Int.tdiv x1 4)) = 0 then (none) else (some (wrap64 (Int.tdiv (wrap64 ((Int.tmod x0 x1) + x1)) (wrap64 (Int.tdiv x1 4))), true))) else (if (wrap64 (Int.tdiv x1 4)) = 0 then (none) else (some (wrap64 (Int.tdiv (Int.tmod x0 x1) (wrap64 (Int.tdiv x1 4))), true)))))
def marigraphref13_Quarter.f (k : Nat) (a0 : Int) (a1 : Int) : Option (Int × Bool) := if a1 < 4 then (marigraphref13_Quarter.j0 k a0 a1 true) else (if a1 > 1099511627776 then (marigraphref13_Quarter.j0 k a0 a1 true) else (marigraphref13_Quarter.j0 k a0 a1 ((Int.tmod a1 4) != 0)))
theorem marigraphref13_Quarter.mono_l : ∀ k, (∀ y0 y1 y2, LeO (marigraphref13_Quarter.j0 k y0 y1 y2) (marigraphref13_Quarter.j0 (k + 1) y0 y1 y2))
  | 0 => fun _ _ _ r h => by simp [marigraphref13_Quarter.j0] at h
  | k + 1 => by
    have ih0 := marigraphref13_Quarter.mono_l k
    · intro y0 y1 y2
      unfold marigraphref13_Quarter.j0
      repeat' first
      | (with_reducible exact ih0 _ _ _)
      | (with_reducible exact LeO.refl _)
      | (with_reducible exact LeO.none _)
      | (with_reducible refine LeO.ite ?_ ?_)
      | (with_reducible refine LeO.bind ?_ (fun _ => ?_))
      | exact ih0 _ _ _
      | exact LeO.none _
      | refine LeO.ite ?_ ?_
      | refine LeO.bind ?_ (fun _ => ?_)
theorem marigraphref13_Quarter.mono : ∀ a0 a1 k, LeO (marigraphref13_Quarter.f k a0 a1) (marigraphref13_Quarter.f (k + 1) a0 a1) := by
  intro a0 a1 k
  have ih0 := marigraphref13_Quarter.mono_l k
  unfold marigraphref13_Quarter.f
  repeat' first
      | (with_reducible exact ih0 _ _ _)
      | (with_reducible exact LeO.refl _)
      | (with_reducible exact LeO.none _)
      | (with_reducible refine LeO.ite ?_ ?_)
      | (with_reducible refine LeO.bind ?_ (fun _ => ?_))
      | exact ih0 _ _ _
      | exact LeO.none _
      | refine LeO.ite ?_ ?_
      | refine LeO.bind ?_ (fun _ => ?_)
set_option maxHeartbeats 8000000 in
set_option maxRecDepth 100000 in
theorem marigraphref13_Quarter.calls (k : Nat) (a0 : Int) (a1 : Int) (r1 : Int) (r2 : Bool) (w : World) (h : marigraphref13_Quarter.f k a0 a1 = some (r1, r2)) :
    Calls Try.prog 19 #[.int .i64 a0, .int .i64 a1] w fun e w' => e = .returned (.tuple #[.int .i64 r1, .bool r2]) ∧ Drawn0 w w' := by
  have H : (if a1 < 4 then (marigraphref13_Quarter.j0 k a0 a1 true) else (if a1 > 1099511627776 then (marigraphref13_Quarter.j0 k a0 a1 true) else (marigraphref13_Quarter.j0 k a0 a1 ((Int.tmod a1 4) != 0)))) = some (r1, r2) := h
  clear h
  have HC3 := Aside0.mk H
  clear H
  go_enter Try.func19, Try.ntmps19
  go_upto_region 1 with (fail)
  go_cut [17] (fun v17 wc => ∃ (kq : Nat) (x17_2 : Bool), v17 = .bool x17_2 ∧ Aside0 (marigraphref13_Quarter.j0 kq a0 a1 x17_2 = some (r1, r2)) ∧ Aside0 (kq ≤ k) ∧ Drawn0 w wc)
  case first =>
    have H := HC3.out
    clear HC3
    by_cases c4 : a1 < 4
    · rw [if_pos c4] at H
      have c4b0 : decide (a1 < 4) = true := decide_eq_true c4
      clear c4
      (first | rw [c4b0] | (simp only [i64_w, i32_w]; rw [c4b0]) | skip)
      have H' := Aside0.mk H
      clear H
      go_wp2
      go_meet
      case rel => exact ⟨_, (true), (by first | rfl | (simp; done) | (simp [*]; done) | (simp <;> grind)), H', ⟨by first | omega | exact Nat.le_refl _⟩, by repeat (first | exact Drawn0.refl _ | apply Drawn0.step)⟩
    · rw [if_neg c4] at H
      have c4b0 : decide (a1 < 4) = false := decide_eq_false c4
      clear c4
      (first | rw [c4b0] | (simp only [i64_w, i32_w]; rw [c4b0]) | skip)
      by_cases c5 : a1 > 1099511627776
      · rw [if_pos c5] at H
        have c5b0 : decide (1099511627776 < a1) = true := decide_eq_true c5
        clear c5
        have H' := Aside0.mk H
        clear H
        go_wp2
        go_meet
        case rel => exact ⟨_, (true), (by first | rfl | (simp; done) | (simp [*]; done) | (simp <;> grind)), H', ⟨by first | omega | exact Nat.le_refl _⟩, by repeat (first | exact Drawn0.refl _ | apply Drawn0.step)⟩
      · rw [if_neg c5] at H
        have c5b0 : decide (1099511627776 < a1) = false := decide_eq_false c5
        clear c5
        have H' := Aside0.mk H
        clear H
        go_wp2
        go_meet
        case rel => exact ⟨_, (((Int.tmod a1 4) != 0)), (by first | rfl | (simp; done) | (simp [*]; done) | (simp <;> grind)), H', ⟨by first | omega | exact Nat.le_refl _⟩, by repeat (first | exact Drawn0.refl _ | apply Drawn0.step)⟩
  case rest =>
    clear HC3
    try clear c1
    try clear p2
    try clear c4
    try clear c4b0
    try clear c5
    try clear c5b0
    obtain ⟨kq, x17_2, rfl, HA, HJ2, ⟨mc2, rfl⟩⟩ := hcut
    cases kq with
    | zero => exact absurd HA.out (by simp [marigraphref13_Quarter.j0])
    | succ kj2 =>
      have H := HA.out
      clear HA
      simp only [marigraphref13_Quarter.j0] at H
      by_cases c6 : x17_2 = true
      · subst c6
        have H1 : (some (0, false)) = some (r1, r2) := by rw [if_pos rfl] at H; exact H
        clear H
        have H := H1
        clear H1
        simp only [Option.some.injEq, Prod.mk.injEq] at H
        obtain ⟨rfl, rfl⟩ := H
        go_wp2
        go_ret2
        exact ⟨by first | rfl | (simp; done) | (simp [*]; done) | (simp <;> grind), by repeat (first | exact Drawn0.refl _ | apply Drawn0.step)⟩
      · replace c6 := Bool.eq_false_iff.mpr c6
        subst c6
        have H1 : (if a1 = 0 then (none) else (if (Int.tmod a0 a1) < 0 then (if (wrap64 (Int.tdiv a1 4)) = 0 then (none) else (some (wrap64 (Int.tdiv (wrap64 ((Int.tmod a0 a1) + a1)) (wrap64 (Int.tdiv a1 4))), true))) else (if (wrap64 (Int.tdiv a1 4)) = 0 then (none) else (some (wrap64 (Int.tdiv (Int.tmod a0 a1) (wrap64 (Int.tdiv a1 4))), true))))) = some (r1, r2) := by rw [if_neg (show ¬ (false = true) by decide)] at H; exact H
        clear H
        have H := H1
        clear H1
        by_cases c7 : a1 = 0
        · rw [if_pos c7] at H
          exact absurd H (by simp)
        · rw [if_neg c7] at H
          have c7b0 : (a1 == 0) = false := beq_eq_false_iff_ne.mpr c7
          have c7b1 : (a1 != 0) = true := bne_iff_ne.mpr c7
          by_cases c8 : (Int.tmod a0 a1) < 0
          · rw [if_pos c8] at H
            have c8b0 : decide ((Int.tmod a0 a1) < 0) = true := decide_eq_true c8
            clear c8
            by_cases c9 : (wrap64 (Int.tdiv a1 4)) = 0
            · rw [if_pos c9] at H
              exact absurd H (by simp)
            · rw [if_neg c9] at H
              have c9b0 : ((wrap64 (Int.tdiv a1 4)) == 0) = false := beq_eq_false_iff_ne.mpr c9
              have c9b1 : ((wrap64 (Int.tdiv a1 4)) != 0) = true := bne_iff_ne.mpr c9
              simp only [Option.some.injEq, Prod.mk.injEq] at H
              obtain ⟨rfl, rfl⟩ := H
              go_wp2
              go_ret2
              exact ⟨by first | rfl | (simp; done) | (simp [*]; done) | (simp <;> grind), by repeat (first | exact Drawn0.refl _ | apply Drawn0.step)⟩
          · rw [if_neg c8] at H
            have c8b0 : decide ((Int.tmod a0 a1) < 0) = false := decide_eq_false c8
            clear c8
            by_cases c10 : (wrap64 (Int.tdiv a1 4)) = 0
            · rw [if_pos c10] at H
              exact absurd H (by simp)
            · rw [if_neg c10] at H
              have c10b0 : ((wrap64 (Int.tdiv a1 4)) == 0) = false := beq_eq_false_iff_ne.mpr c10
              have c10b1 : ((wrap64 (Int.tdiv a1 4)) != 0) = true := bne_iff_ne.mpr c10
              simp only [Option.some.injEq, Prod.mk.injEq] at H
              obtain ⟨rfl, rfl⟩ := H
              go_wp2
              go_ret2
              exact ⟨by first | rfl | (simp; done) | (simp [*]; done) | (simp <;> grind), by repeat (first | exact Drawn0.refl _ | apply Drawn0.step)⟩

end Go.Proofs.Ytjkpdjadbeidnaa.T
