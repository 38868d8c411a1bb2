-- By xprint.py, out of the translation's own print. Lean checks it.
import Derived.Test.YtjkpdjadbeidnaaT0
namespace Go.Proofs.Ytjkpdjadbeidnaa.T
open Go.RowKit Go.Proofs.YtjkpdjadbeidnaaW.PrintWords Go.Proofs.YtjkpdjadbeidnaaW.PrintLast Go.Proofs.YtjkpdjadbeidnaaW.PrintMore Go.Proofs.Ytjkpdjadbeidnaa.Flo
attribute [local go_sem high] x_neg x_cneg x_add x_cadd x_eq x_ne x_ge x_le x_ceq x_cne x_ofi x_toi
attribute [local go_sem] max2_int min2_int max_two min_two max_three min_three max_four min_four   -- for this text's walks alone
set_option linter.unusedVariables false
set_option linter.unusedSimpArgs false

/-! ### marigraphref13_By: function 24 -/
mutual
def marigraphref13_By.j0 : Nat → Int → Int → Int → Option (Int × Int)
  | 0, _, _, _ => none
  | k + 1, x0, x1, x8 => marigraphref13_By.l0 k x0 x1 x8 0
def marigraphref13_By.l0 : Nat → Int → Int → Int → Int → Option (Int × Int)
  | 0, _, _, _, _ => none
  | k + 1, x0, x1, x8, x9 => if x9 < x8 then (marigraphref13_By.l0 k (wrap64 (-x1)) x0 x8 (wrap64 (x9 + 1))) else (some (x0, x1))
end
def marigraphref13_By.f (k : Nat) (a0 : Int) (a1 : Int) (a2 : Int) : Option (Int × Int) := if (Int.tmod a2 4) < 0 then (marigraphref13_By.j0 k a0 a1 (wrap64 ((Int.tmod a2 4) + 4))) else (marigraphref13_By.j0 k a0 a1 (Int.tmod a2 4))
theorem marigraphref13_By.mono_l : ∀ k, (∀ y0 y1 y2, LeO (marigraphref13_By.j0 k y0 y1 y2) (marigraphref13_By.j0 (k + 1) y0 y1 y2)) ∧ (∀ y0 y1 y2 y3, LeO (marigraphref13_By.l0 k y0 y1 y2 y3) (marigraphref13_By.l0 (k + 1) y0 y1 y2 y3))
  | 0 => ⟨fun _ _ _ r h => by simp [marigraphref13_By.j0] at h, fun _ _ _ _ r h => by simp [marigraphref13_By.l0] at h⟩
  | k + 1 => by
    obtain ⟨ih0, ih1⟩ := marigraphref13_By.mono_l k
    refine ⟨?_, ?_⟩
    · intro y0 y1 y2
      unfold marigraphref13_By.j0
      repeat' first
      | (with_reducible exact ih0 _ _ _)
      | (with_reducible exact ih1 _ _ _ _)
      | (with_reducible exact LeO.refl _)
      | (with_reducible exact LeO.none _)
      | (with_reducible refine LeO.ite ?_ ?_)
      | (with_reducible refine LeO.bind ?_ (fun _ => ?_))
      | exact ih0 _ _ _
      | exact ih1 _ _ _ _
      | exact LeO.none _
      | refine LeO.ite ?_ ?_
      | refine LeO.bind ?_ (fun _ => ?_)
    · intro y0 y1 y2 y3
      unfold marigraphref13_By.l0
      repeat' first
      | (with_reducible exact ih0 _ _ _)
      | (with_reducible exact ih1 _ _ _ _)
      | (with_reducible exact LeO.refl _)
      | (with_reducible exact LeO.none _)
      | (with_reducible refine LeO.ite ?_ ?_)
      | (with_reducible refine LeO.bind ?_ (fun _ => ?_))
      | exact ih0 _ _ _
      | exact ih1 _ _ _ _
      | exact LeO.none _
      | refine LeO.ite ?_ ?_
      | refine LeO.bind ?_ (fun _ => ?_)
theorem marigraphref13_By.mono : ∀ a0 a1 a2 k, LeO (marigraphref13_By.f k a0 a1 a2) (marigraphref13_By.f (k + 1) a0 a1 a2) := by
  intro a0 a1 a2 k
  obtain ⟨ih0, ih1⟩ := marigraphref13_By.mono_l k
  unfold marigraphref13_By.f
  repeat' first
      | (with_reducible exact ih0 _ _ _)
      | (with_reducible exact ih1 _ _ _ _)
      | (with_reducible exact LeO.refl _)
      | (with_reducible exact LeO.none _)
      | (with_reducible refine LeO.ite ?_ ?_)
      | (with_reducible refine LeO.bind ?_ (fun _ => ?_))
      | exact ih0 _ _ _
      | exact ih1 _ _ _ _
      | exact LeO.none _
      | refine LeO.ite ?_ ?_
      | refine LeO.bind ?_ (fun _ => ?_)
set_option maxHeartbeats 8000000 in
set_option maxRecDepth 100000 in
theorem marigraphref13_By.calls (k : Nat) (a0 : Int) (a1 : Int) (a2 : Int) (r1 : Int) (r2 : Int) (w : World) (h : marigraphref13_By.f k a0 a1 a2 = some (r1, r2)) :
    Calls Try.prog 24 #[.int .i64 a0, .int .i64 a1, .int .i64 a2] w fun e w' => e = .returned (.tuple #[.int .i64 r1, .int .i64 r2]) ∧ Drawn0 w w' := by
  have H : (if (Int.tmod a2 4) < 0 then (marigraphref13_By.j0 k a0 a1 (wrap64 ((Int.tmod a2 4) + 4))) else (marigraphref13_By.j0 k a0 a1 (Int.tmod a2 4))) = some (r1, r2) := h
  clear h
  have HC4 := Aside0.mk H
  clear H
  go_enter Try.func24, Try.ntmps24
  go_upto_if 14 with (fail)
  go_cut [8] (fun v8 wc => ∃ (kq : Nat) (x8_3 : Int), v8 = .int .i64 x8_3 ∧ Aside0 (marigraphref13_By.j0 kq a0 a1 x8_3 = some (r1, r2)) ∧ Aside0 (kq ≤ k) ∧ Drawn0 w wc)
  case first =>
    have H := HC4.out
    clear HC4
    by_cases c5 : (Int.tmod a2 4) < 0
    · rw [if_pos c5] at H
      have c5b0 : decide ((Int.tmod a2 4) < 0) = true := decide_eq_true c5
      clear c5
      (first | rw [c5b0] | (simp only [i64_w, i32_w]; rw [c5b0]) | skip)
      have H' := Aside0.mk H
      clear H
      go_wp2
      go_meet
      case rel => exact ⟨_, (wrap64 ((Int.tmod a2 4) + 4)), (by first | rfl | (simp; done) | (simp [*]; done) | (simp <;> grind)), H', ⟨by first | omega | exact Nat.le_refl _⟩, by repeat (first | exact Drawn0.refl _ | apply Drawn0.step)⟩
    · rw [if_neg c5] at H
      have c5b0 : decide ((Int.tmod a2 4) < 0) = false := decide_eq_false c5
      clear c5
      (first | rw [c5b0] | (simp only [i64_w, i32_w]; rw [c5b0]) | skip)
      have H' := Aside0.mk H
      clear H
      go_wp2
      go_meet
      case rel => exact ⟨_, (Int.tmod a2 4), (by first | rfl | (simp; done) | (simp [*]; done) | (simp <;> grind)), H', ⟨by first | omega | exact Nat.le_refl _⟩, by repeat (first | exact Drawn0.refl _ | apply Drawn0.step)⟩
  case rest =>
    clear HC4
    try clear c2
    try clear p2
    try clear c5
    try clear c5b0
    obtain ⟨kq, x8_3, rfl, HA, HJ3, ⟨mc3, rfl⟩⟩ := hcut
    cases kq with
    | zero => exact absurd HA.out (by simp [marigraphref13_By.j0])
    | succ kj3 =>
      have H := HA.out
      clear HA
      simp only [marigraphref13_By.j0] at H
      have H' := Aside0.mk H
      clear H
      go_wp2
      go_loopg [0, 1, 9] kj3 (fun kq v0 v1 v9 w' => ∃ (x0_2 : Int) (x1_2 : Int) (x9_2 : Int), v0 = .int .i64 x0_2 ∧ v1 = .int .i64 x1_2 ∧ v9 = .int .i64 x9_2 ∧ Aside0 (marigraphref13_By.l0 kq x0_2 x1_2 x8_3 x9_2 = some (r1, r2)) ∧ Aside0 (kq ≤ kj3) ∧ Drawn0 w w')
      case atStart => exact ⟨(a0), (a1), (0), (by first | rfl | (simp; done) | (simp [*]; done) | (simp <;> grind)), (by first | rfl | (simp; done) | (simp [*]; done) | (simp <;> grind)), (by first | rfl | (simp; done) | (simp [*]; done) | (simp <;> grind)), H', ⟨Nat.le_refl _⟩, by repeat (first | exact Drawn0.refl _ | apply Drawn0.step)⟩
      case round =>
        clear H'
        try clear c2
        try clear p2
        try clear c3
        try clear c5
        try clear c5b0
        try clear p2
        obtain ⟨x0_2, x1_2, x9_2, rfl, rfl, rfl, HA, HK2, ⟨m2, rfl⟩⟩ := hrel
        cases gk with
        | zero => exact absurd HA.out (by simp [marigraphref13_By.l0])
        | succ k2 =>
          have H := HA.out
          clear HA
          simp only [marigraphref13_By.l0] at H
          by_cases c6 : x9_2 < x8_3
          · rw [if_pos c6] at H
            have c6b0 : decide (x9_2 < x8_3) = true := decide_eq_true c6
            clear c6
            have H' := Aside0.mk H
            clear H
            go_wp2
            go_roundg k2
            case measure => have := HJ3.out; have := HK2.out; omega
            case rel => exact ⟨(wrap64 (-x1_2)), (x0_2), (wrap64 (x9_2 + 1)), (by first | rfl | (simp; done) | (simp [*]; done) | (simp <;> grind)), (by first | rfl | (simp; done) | (simp [*]; done) | (simp <;> grind)), (by first | rfl | (simp; done) | (simp [*]; done) | (simp <;> grind)), H', ⟨by have := HJ3.out; have := HK2.out; omega⟩, by repeat (first | exact Drawn0.refl _ | apply Drawn0.step)⟩
          · rw [if_neg c6] at H
            have c6b0 : decide (x9_2 < x8_3) = false := decide_eq_false c6
            clear c6
            simp only [Option.some.injEq, Prod.mk.injEq] at H
            obtain ⟨rfl, rfl⟩ := H
            go_wp2
            go_ret2
            exact ⟨by first | rfl | (simp; done) | (simp [*]; done) | (simp <;> grind), by repeat (first | exact Drawn0.refl _ | apply Drawn0.step)⟩

end Go.Proofs.Ytjkpdjadbeidnaa.T
