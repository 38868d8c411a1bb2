-- By xprint.py, out of the translation's own print. Lean checks it.
import Derived.Test.YtjkpdjadbeidnaaT0
import Derived.Test.YtjkpdjadbeidnaaT2
import Derived.Test.YtjkpdjadbeidnaaT13
namespace Go.Proofs.Ytjkpdjadbeidnaa.T
open Go.RowKit Go.Proofs.YtjkpdjadbeidnaaW.PrintWords Go.Proofs.YtjkpdjadbeidnaaW.PrintLast Go.Proofs.YtjkpdjadbeidnaaW.PrintMore Go.Proofs.Ytjkpdjadbeidnaa.Flo
attribute [local go_sem high] x_neg x_cneg x_add x_cadd x_eq x_ne x_ge x_le x_ceq x_cne x_ofi x_toi
attribute [local go_sem] max2_int min2_int max_two min_two max_three min_three max_four min_four   -- for this text's walks alone
set_option linter.unusedVariables false
set_option linter.unusedSimpArgs false

/-! ### marigraphref13_Of: function 27 -/
mutual
def marigraphref13_Of.l0 : Nat → List (S33) → Int → Int → Int → Int → Option (Int × Int × Int)
  | 0, _, _, _, _, _ => none
  | k + 1, x0, x1, x9, x10, x11 => if x11 < (x0.length : Int) then (if 0 ≤ x11 then (if ((rd_T33 x0 x11).f1) < (-1099511627776) then (marigraphref13_Of.j1 k x0 x1 x9 x10 x11 true) else (marigraphref13_Of.j1 k x0 x1 x9 x10 x11 (decide (((rd_T33 x0 x11).f1) > 1099511627776)))) else (none)) else (some (x9, x10, 0))
def marigraphref13_Of.j1 : Nat → List (S33) → Int → Int → Int → Int → Bool → Option (Int × Int × Int)
  | 0, _, _, _, _, _, _ => none
  | k + 1, x0, x1, x9, x10, x11, x45 => if x45 = true then (some (0, 0, 1)) else (if 0 ≤ x11 then (if x11 < (x0.length : Int) then ((marigraphref13_Quarter.f k ((rd_T33 x0 x11).f0) x1).bind fun bt229 => ((marigraphref13_By.f k ((rd_T33 x0 x11).f1) 0 bt229.1).bind fun bt232 => (marigraphref13_Of.l0 k x0 x1 (wrap64 (x9 + bt232.1)) (wrap64 (x10 + bt232.2)) (wrap64 (x11 + 1))))) else (none)) else (none))
end
def marigraphref13_Of.f (k : Nat) (l0 : List (S33)) (a1 : Int) : Option (Int × Int × Int) := if (l0.length : Int) > 1024 then (some (0, 0, 3)) else ((marigraphref13_Quarter.f k 0 a1).bind fun bt224 => (if bt224.2 = true then (marigraphref13_Of.l0 k l0 a1 0 0 0) else (some (0, 0, 1))))
theorem marigraphref13_Of.mono_l : ∀ k, (∀ y0 y1 y2 y3 y4, LeO (marigraphref13_Of.l0 k y0 y1 y2 y3 y4) (marigraphref13_Of.l0 (k + 1) y0 y1 y2 y3 y4)) ∧ (∀ y0 y1 y2 y3 y4 y5, LeO (marigraphref13_Of.j1 k y0 y1 y2 y3 y4 y5) (marigraphref13_Of.j1 (k + 1) y0 y1 y2 y3 y4 y5))
  | 0 => ⟨fun _ _ _ _ _ r h => by simp [marigraphref13_Of.l0] at h, fun _ _ _ _ _ _ r h => by simp [marigraphref13_Of.j1] at h⟩
  | k + 1 => by
    obtain ⟨ih0, ih1⟩ := marigraphref13_Of.mono_l k
    refine ⟨?_, ?_⟩
    · intro y0 y1 y2 y3 y4
      unfold marigraphref13_Of.l0
      repeat' first
      | (with_reducible exact ih0 _ _ _ _ _)
      | (with_reducible exact ih1 _ _ _ _ _ _)
      | (with_reducible exact marigraphref13_By.mono _ _ _ _)
      | (with_reducible exact marigraphref13_Quarter.mono _ _ _)
      | (with_reducible exact LeO.refl _)
      | (with_reducible exact LeO.none _)
      | (with_reducible refine LeO.ite ?_ ?_)
      | (with_reducible refine LeO.bind ?_ (fun _ => ?_))
      | exact ih0 _ _ _ _ _
      | exact ih1 _ _ _ _ _ _
      | exact marigraphref13_By.mono _ _ _ _
      | exact marigraphref13_Quarter.mono _ _ _
      | exact LeO.none _
      | refine LeO.ite ?_ ?_
      | refine LeO.bind ?_ (fun _ => ?_)
    · intro y0 y1 y2 y3 y4 y5
      unfold marigraphref13_Of.j1
      repeat' first
      | (with_reducible exact ih0 _ _ _ _ _)
      | (with_reducible exact ih1 _ _ _ _ _ _)
      | (with_reducible exact marigraphref13_By.mono _ _ _ _)
      | (with_reducible exact marigraphref13_Quarter.mono _ _ _)
      | (with_reducible exact LeO.refl _)
      | (with_reducible exact LeO.none _)
      | (with_reducible refine LeO.ite ?_ ?_)
      | (with_reducible refine LeO.bind ?_ (fun _ => ?_))
      | exact ih0 _ _ _ _ _
      | exact ih1 _ _ _ _ _ _
      | exact marigraphref13_By.mono _ _ _ _
      | exact marigraphref13_Quarter.mono _ _ _
      | exact LeO.none _
      | refine LeO.ite ?_ ?_
      | refine LeO.bind ?_ (fun _ => ?_)
theorem marigraphref13_Of.mono : ∀ a0 a1 k, LeO (marigraphref13_Of.f k a0 a1) (marigraphref13_Of.f (k + 1) a0 a1) := by
  intro a0 a1 k
  obtain ⟨ih0, ih1⟩ := marigraphref13_Of.mono_l k
  unfold marigraphref13_Of.f
  repeat' first
      | (with_reducible exact ih0 _ _ _ _ _)
      | (with_reducible exact ih1 _ _ _ _ _ _)
      | (with_reducible exact marigraphref13_By.mono _ _ _ _)
      | (with_reducible exact marigraphref13_Quarter.mono _ _ _)
      | (with_reducible exact LeO.refl _)
      | (with_reducible exact LeO.none _)
      | (with_reducible refine LeO.ite ?_ ?_)
      | (with_reducible refine LeO.bind ?_ (fun _ => ?_))
      | exact ih0 _ _ _ _ _
      | exact ih1 _ _ _ _ _ _
      | exact marigraphref13_By.mono _ _ _ _
      | exact marigraphref13_Quarter.mono _ _ _
      | exact LeO.none _
      | refine LeO.ite ?_ ?_
      | refine LeO.bind ?_ (fun _ => ?_)
set_option maxHeartbeats 8000000 in
set_option maxRecDepth 100000 in
theorem marigraphref13_Of.calls (k : Nat) (A0 : Option Addr) (c0 : Nat) (l0 : List (S33)) (a1 : Int) (r1 : Int) (r2 : Int) (r3 : Int) (w : World) (hr0 : Kd.C k33 w A0 l0.length l0) (hc0 : l0.length ≤ c0) (h : marigraphref13_Of.f k l0 a1 = some (r1, r2, r3)) :
    Calls Try.prog 27 #[.slice A0 l0.length c0, .int .i64 a1] w fun e w' => e = .returned (.tuple #[.int .i64 r1, .int .i64 r2, .int .i64 r3]) ∧ Drawn0 w w' := by
  have HR0 := Aside0.mk hr0
  have HC0 := Aside0.mk hc0
  clear hr0 hc0
  have H : (if (l0.length : Int) > 1024 then (some (0, 0, 3)) else ((marigraphref13_Quarter.f k 0 a1).bind fun bt224 => (if bt224.2 = true then (marigraphref13_Of.l0 k l0 a1 0 0 0) else (some (0, 0, 1))))) = some (r1, r2, r3) := h
  clear h
  by_cases c3 : (l0.length : Int) > 1024
  · rw [if_pos c3] at H
    have c3b0 : decide (1024 < (l0.length : Int)) = true := decide_eq_true c3
    have c3b1 : decide (1024 < l0.length) = true := decide_eq_true (by omega)
    clear c3
    simp only [Option.some.injEq, Prod.mk.injEq] at H
    obtain ⟨rfl, rfl, rfl⟩ := H
    go_enter Try.func27, Try.ntmps27
    go_wp2
    go_ret3
    exact ⟨by first | rfl | (simp; done) | (simp [*]; done) | (simp <;> grind), by repeat (first | exact Drawn0.refl _ | apply Drawn0.step)⟩
  · rw [if_neg c3] at H
    have c3b0 : decide (1024 < (l0.length : Int)) = false := decide_eq_false c3
    have c3b1 : decide (1024 < l0.length) = false := decide_eq_false (by omega)
    clear c3
    replace H := Option.bind_eq_some_iff.mp H
    obtain ⟨⟨t224, t225⟩, A40, H⟩ := H
    replace H : (if t225 = true then (marigraphref13_Of.l0 k l0 a1 0 0 0) else (some (0, 0, 1))) = some (r1, r2, r3) := H
    have A4 := Aside0.mk A40
    clear A40
    by_cases c5 : t225 = true
    · subst c5
      have H1 : (marigraphref13_Of.l0 k l0 a1 0 0 0) = some (r1, r2, r3) := by rw [if_pos rfl] at H; exact H
      clear H
      have H := H1
      clear H1
      have H' := Aside0.mk H
      clear H
      go_enter Try.func27, Try.ntmps27
      go_wp2_with (first | ((with_reducible refine gate_callee (f := 19) rfl ?_); refine goesL_ (some 21) rfl rfl Try.func19 (by kernel_rfl) rfl #[.int .i64 0, .int .i64 a1] rfl (by (try simp only [List.map_toArray, List.map_cons, List.map_nil]); first | done | rfl | (simp only [List.length_drop, List.length_take]; rfl)) ?_; (with_reducible refine (marigraphref13_Quarter.calls k 0 a1 t224 true _ A4.out).mono ?_); rintro e w' ⟨rfl, ⟨nd, rfl⟩⟩; refine ⟨_, rfl, ?_⟩))
      go_loopg [9, 10, 11] k (fun kq v9 v10 v11 w' => ∃ (x9_1 : Int) (x10_1 : Int) (x11_1 : Int), v9 = .int .i64 x9_1 ∧ v10 = .int .i64 x10_1 ∧ v11 = .int .i64 x11_1 ∧ Aside0 (marigraphref13_Of.l0 kq l0 a1 x9_1 x10_1 x11_1 = some (r1, r2, r3)) ∧ Aside0 (kq ≤ k) ∧ Drawn0 w w')
      case atStart => exact ⟨(0), (0), (0), (by first | rfl | (simp; done) | (simp [*]; done) | (simp <;> grind)), (by first | rfl | (simp; done) | (simp [*]; done) | (simp <;> grind)), (by first | rfl | (simp; done) | (simp [*]; done) | (simp <;> grind)), H', ⟨Nat.le_refl _⟩, by repeat (first | exact Drawn0.refl _ | apply Drawn0.step)⟩
      case round =>
        clear H'
        try clear c1
        try clear c2
        try clear p2
        try clear c3
        try clear c3b0
        try clear c3b1
        try clear c5
        obtain ⟨x9_1, x10_1, x11_1, rfl, rfl, rfl, HA, HK1, ⟨m1, rfl⟩⟩ := hrel
        cases gk with
        | zero => exact absurd HA.out (by simp [marigraphref13_Of.l0])
        | succ k1 =>
          have H := HA.out
          clear HA
          simp only [marigraphref13_Of.l0] at H
          by_cases c6 : x11_1 < (l0.length : Int)
          · rw [if_pos c6] at H
            have c6b0 : decide (x11_1 < (l0.length : Int)) = true := decide_eq_true c6
            clear c6
            have HC7 := Aside0.mk H
            clear H
            go_upto_region 11 with (fail)
            go_cut [45] (fun v45 wc => ∃ (kq : Nat) (x45_6 : Bool), v45 = .bool x45_6 ∧ Aside0 (marigraphref13_Of.j1 kq l0 a1 x9_1 x10_1 x11_1 x45_6 = some (r1, r2, r3)) ∧ Aside0 (kq ≤ k1) ∧ Drawn0 w wc)
            case first =>
              have H := HC7.out
              clear HC7
              by_cases c8 : 0 ≤ x11_1
              · rw [if_pos c8] at H
                have c8b0 : decide (0 ≤ x11_1) = true := decide_eq_true c8
                clear c8
                (first | rw [c8b0] | (simp only [i64_w, i32_w]; rw [c8b0]) | skip)
                by_cases c9 : ((rd_T33 l0 x11_1).f1) < (-1099511627776)
                · rw [if_pos c9] at H
                  have c9b0 : decide (((rd_T33 l0 x11_1).f1) < (-1099511627776)) = true := decide_eq_true c9
                  clear c9
                  have H' := Aside0.mk H
                  clear H
                  have p226 : 0 ≤ (x11_1 : Int) := of_decide_eq_true (by first | (with_reducible assumption) | assumption)
                  have q226 : x11_1 < (l0.length : Int) := of_decide_eq_true (by first | (with_reducible assumption) | assumption)
                  obtain ⟨ad226, e226, hx226_0, hx226_1⟩ := at_T33 HR0.out x11_1 p226 q226
                  cases e226
                  replace p226 := eq_true p226
                  replace q226 := eq_true q226
                  go_wp2
                  go_meet
                  case rel => exact ⟨_, (true), (by first | rfl | (simp; done) | (simp [*]; done) | (simp <;> grind)), H', ⟨by have := HK1.out; first | omega | exact Nat.le_refl _⟩, by repeat (first | exact Drawn0.refl _ | apply Drawn0.step)⟩
                · rw [if_neg c9] at H
                  have c9b0 : decide (((rd_T33 l0 x11_1).f1) < (-1099511627776)) = false := decide_eq_false c9
                  clear c9
                  have H' := Aside0.mk H
                  clear H
                  have p226 : 0 ≤ (x11_1 : Int) := of_decide_eq_true (by first | (with_reducible assumption) | assumption)
                  have q226 : x11_1 < (l0.length : Int) := of_decide_eq_true (by first | (with_reducible assumption) | assumption)
                  obtain ⟨ad226, e226, hx226_0, hx226_1⟩ := at_T33 HR0.out x11_1 p226 q226
                  cases e226
                  replace p226 := eq_true p226
                  replace q226 := eq_true q226
                  have p227 : 0 ≤ (x11_1 : Int) := of_decide_eq_true (by first | (with_reducible assumption) | assumption)
                  have q227 : x11_1 < (l0.length : Int) := of_decide_eq_true (by first | (with_reducible assumption) | assumption)
                  obtain ⟨ad227, e227, hx227_0, hx227_1⟩ := at_T33 HR0.out x11_1 p227 q227
                  obtain rfl : ad226 = ad227 := (by injection e227)
                  replace p227 := eq_true p227
                  replace q227 := eq_true q227
                  go_wp2
                  go_meet
                  case rel => exact ⟨_, (decide (((rd_T33 l0 x11_1).f1) > 1099511627776)), (by first | rfl | (simp; done) | (simp [*]; done) | (simp <;> grind)), H', ⟨by have := HK1.out; first | omega | exact Nat.le_refl _⟩, by repeat (first | exact Drawn0.refl _ | apply Drawn0.step)⟩
              · rw [if_neg c8] at H
                exact absurd H (by simp)
            case rest =>
              clear HC7
              try clear c1
              try clear c2
              try clear p2
              try clear q2
              try clear hx2
              try clear c3
              try clear c3b0
              try clear c3b1
              try clear c5
              try clear c6
              try clear c6b0
              try clear c8
              try clear c8b0
              try clear c9
              try clear c9b0
              try clear hx226_0
              try clear hx226_1
              try clear hx227_0
              try clear hx227_1
              try clear p2
              try clear p226
              try clear p227
              try clear q226
              try clear q227
              obtain ⟨kq, x45_6, rfl, HA, HJ6, ⟨mc6, rfl⟩⟩ := hcut
              cases kq with
              | zero => exact absurd HA.out (by simp [marigraphref13_Of.j1])
              | succ kj6 =>
                have H := HA.out
                clear HA
                simp only [marigraphref13_Of.j1] at H
                by_cases c10 : x45_6 = true
                · subst c10
                  have H1 : (some (0, 0, 1)) = some (r1, r2, r3) := by rw [if_pos rfl] at H; exact H
                  clear H
                  have H := H1
                  clear H1
                  simp only [Option.some.injEq, Prod.mk.injEq] at H
                  obtain ⟨rfl, rfl, rfl⟩ := H
                  go_wp2
                  go_ret3
                  exact ⟨by first | rfl | (simp; done) | (simp [*]; done) | (simp <;> grind), by repeat (first | exact Drawn0.refl _ | apply Drawn0.step)⟩
                · replace c10 := Bool.eq_false_iff.mpr c10
                  subst c10
                  have H1 : (if 0 ≤ x11_1 then (if x11_1 < (l0.length : Int) then ((marigraphref13_Quarter.f kj6 ((rd_T33 l0 x11_1).f0) a1).bind fun bt229 => ((marigraphref13_By.f kj6 ((rd_T33 l0 x11_1).f1) 0 bt229.1).bind fun bt232 => (marigraphref13_Of.l0 kj6 l0 a1 (wrap64 (x9_1 + bt232.1)) (wrap64 (x10_1 + bt232.2)) (wrap64 (x11_1 + 1))))) else (none)) else (none)) = some (r1, r2, r3) := by rw [if_neg (show ¬ (false = true) by decide)] at H; exact H
                  clear H
                  have H := H1
                  clear H1
                  by_cases c11 : 0 ≤ x11_1
                  · rw [if_pos c11] at H
                    have c11b0 : decide (0 ≤ x11_1) = true := decide_eq_true c11
                    clear c11
                    by_cases c12 : x11_1 < (l0.length : Int)
                    · rw [if_pos c12] at H
                      have c12b0 : decide (x11_1 < (l0.length : Int)) = true := decide_eq_true c12
                      clear c12
                      replace H := Option.bind_eq_some_iff.mp H
                      obtain ⟨⟨t229, t230⟩, A130, H⟩ := H
                      replace H : ((marigraphref13_By.f kj6 ((rd_T33 l0 x11_1).f1) 0 t229).bind fun bt232 => (marigraphref13_Of.l0 kj6 l0 a1 (wrap64 (x9_1 + bt232.1)) (wrap64 (x10_1 + bt232.2)) (wrap64 (x11_1 + 1)))) = some (r1, r2, r3) := H
                      have A13 := Aside0.mk A130
                      clear A130
                      replace H := Option.bind_eq_some_iff.mp H
                      obtain ⟨⟨t232, t233⟩, A140, H⟩ := H
                      replace H : (marigraphref13_Of.l0 kj6 l0 a1 (wrap64 (x9_1 + t232)) (wrap64 (x10_1 + t233)) (wrap64 (x11_1 + 1))) = some (r1, r2, r3) := H
                      have A14 := Aside0.mk A140
                      clear A140
                      have H' := Aside0.mk H
                      clear H
                      have p228 : 0 ≤ (x11_1 : Int) := of_decide_eq_true (by first | (with_reducible assumption) | assumption)
                      have q228 : x11_1 < (l0.length : Int) := of_decide_eq_true (by first | (with_reducible assumption) | assumption)
                      obtain ⟨ad228, e228, hx228_0, hx228_1⟩ := at_T33 HR0.out x11_1 p228 q228
                      cases e228
                      replace p228 := eq_true p228
                      replace q228 := eq_true q228
                      go_wp2_with (first | ((with_reducible refine gate_callee (f := 19) rfl ?_); refine goesL_ (some 53) rfl rfl Try.func19 (by kernel_rfl) rfl #[.int .i64 ((rd_T33 l0 x11_1).f0), .int .i64 a1] rfl (by (try simp only [List.map_toArray, List.map_cons, List.map_nil]); first | done | rfl | (simp only [List.length_drop, List.length_take]; rfl)) ?_; (with_reducible refine (marigraphref13_Quarter.calls kj6 ((rd_T33 l0 x11_1).f0) a1 t229 t230 _ A13.out).mono ?_); rintro e w' ⟨rfl, ⟨nd, rfl⟩⟩; refine ⟨_, rfl, ?_⟩; have p231 : 0 ≤ (x11_1 : Int) := of_decide_eq_true (by first | (with_reducible assumption) | assumption); have q231 : x11_1 < (l0.length : Int) := of_decide_eq_true (by first | (with_reducible assumption) | assumption); obtain ⟨ad231, e231, hx231_0, hx231_1⟩ := at_T33 HR0.out x11_1 p231 q231; obtain rfl : ad228 = ad231 := (by injection e231); replace p231 := eq_true p231; replace q231 := eq_true q231) | ((with_reducible refine gate_callee (f := 24) rfl ?_); refine goesL_ (some 63) rfl rfl Try.func24 (by kernel_rfl) rfl #[.int .i64 ((rd_T33 l0 x11_1).f1), .int .i64 0, .int .i64 t229] rfl (by (try simp only [List.map_toArray, List.map_cons, List.map_nil]); first | done | rfl | (simp only [List.length_drop, List.length_take]; rfl)) ?_; (with_reducible refine (marigraphref13_By.calls kj6 ((rd_T33 l0 x11_1).f1) 0 t229 t232 t233 _ A14.out).mono ?_); rintro e w' ⟨rfl, ⟨nd, rfl⟩⟩; refine ⟨_, rfl, ?_⟩))
                      go_roundg kj6
                      case measure => have := HK1.out; have := HJ6.out; omega
                      case rel => exact ⟨(wrap64 (x9_1 + t232)), (wrap64 (x10_1 + t233)), (wrap64 (x11_1 + 1)), (by first | rfl | (simp; done) | (simp [*]; done) | (simp <;> grind)), (by first | rfl | (simp; done) | (simp [*]; done) | (simp <;> grind)), (by first | rfl | (simp; done) | (simp [*]; done) | (simp <;> grind)), H', ⟨by have := HK1.out; have := HJ6.out; omega⟩, by repeat (first | exact Drawn0.refl _ | apply Drawn0.step)⟩
                    · rw [if_neg c12] at H
                      exact absurd H (by simp)
                  · rw [if_neg c11] at H
                    exact absurd H (by simp)
          · rw [if_neg c6] at H
            have c6b0 : decide (x11_1 < (l0.length : Int)) = false := decide_eq_false c6
            clear c6
            simp only [Option.some.injEq, Prod.mk.injEq] at H
            obtain ⟨rfl, rfl, rfl⟩ := H
            go_wp2
            go_ret3
            exact ⟨by first | rfl | (simp; done) | (simp [*]; done) | (simp <;> grind), by repeat (first | exact Drawn0.refl _ | apply Drawn0.step)⟩
    · replace c5 := Bool.eq_false_iff.mpr c5
      subst c5
      have H1 : (some (0, 0, 1)) = some (r1, r2, r3) := by rw [if_neg (show ¬ (false = true) by decide)] at H; exact H
      clear H
      have H := H1
      clear H1
      simp only [Option.some.injEq, Prod.mk.injEq] at H
      obtain ⟨rfl, rfl, rfl⟩ := H
      go_enter Try.func27, Try.ntmps27
      go_wp2_with (first | ((with_reducible refine gate_callee (f := 19) rfl ?_); refine goesL_ (some 21) rfl rfl Try.func19 (by kernel_rfl) rfl #[.int .i64 0, .int .i64 a1] rfl (by (try simp only [List.map_toArray, List.map_cons, List.map_nil]); first | done | rfl | (simp only [List.length_drop, List.length_take]; rfl)) ?_; (with_reducible refine (marigraphref13_Quarter.calls k 0 a1 t224 false _ A4.out).mono ?_); rintro e w' ⟨rfl, ⟨nd, rfl⟩⟩; refine ⟨_, rfl, ?_⟩))
      go_ret3
      exact ⟨by first | rfl | (simp; done) | (simp [*]; done) | (simp <;> grind), by repeat (first | exact Drawn0.refl _ | apply Drawn0.step)⟩

end Go.Proofs.Ytjkpdjadbeidnaa.T
