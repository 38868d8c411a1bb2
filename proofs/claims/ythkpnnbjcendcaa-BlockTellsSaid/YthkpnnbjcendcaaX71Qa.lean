-- By xprint.py, out of the translation's own print. Lean checks it.
import Derived.Test.YthkpnnbjcendcaaX0Qa
namespace Go.Proofs.Ythkpnnbjcendcaa.X
open Go.RowKit Go.Proofs.YthkpnnbjcendcaaW.PrintWords Go.Proofs.YthkpnnbjcendcaaW.PrintLast Go.Proofs.YthkpnnbjcendcaaW.PrintMore
attribute [local go_sem] max2_int min2_int max_two min_two max_three min_three max_four min_four   -- for this text's walks alone
set_option linter.unusedVariables false
set_option linter.unusedSimpArgs false

/-! ### marigraphref09_Span: function 46 -/
mutual
def marigraphref09_Span.l0 : Nat → List (S109) → Int → Int → Bool → Int → Option (Int × Int × Bool)
  | 0, _, _, _, _, _ => none
  | k + 1, x0, x5, x6, x7, x8 => if x8 < (x0.length : Int) then (marigraphref09_Span.l1 k x0 x5 x6 x7 x8 0) else (some (x5, x6, x7))
def marigraphref09_Span.l1 : Nat → List (S109) → Int → Int → Bool → Int → Int → Option (Int × Int × Bool)
  | 0, _, _, _, _, _, _ => none
  | k + 1, x0, x5, x6, x7, x8, x9 => if 0 ≤ x8 then (if x8 < (x0.length : Int) then (if x9 < (((rd_T109 x0 x8).f1).length : Int) then (if 0 ≤ x9 then (if x7 = true then (marigraphref09_Span.j2 k x0 x5 x6 x7 x8 x9 ((rd_T52 ((rd_T109 x0 x8).f1) x9).f0) (decide (((rd_T52 ((rd_T109 x0 x8).f1) x9).f0) < x5))) else (marigraphref09_Span.j2 k x0 x5 x6 x7 x8 x9 ((rd_T52 ((rd_T109 x0 x8).f1) x9).f0) true)) else (none)) else (marigraphref09_Span.l0 k x0 x5 x6 x7 (wrap64 (x8 + 1)))) else (none)) else (none)
def marigraphref09_Span.j2 : Nat → List (S109) → Int → Int → Bool → Int → Int → Int → Bool → Option (Int × Int × Bool)
  | 0, _, _, _, _, _, _, _, _ => none
  | k + 1, x0, x5, x6, x7, x8, x9, x10, x42 => if x42 = true then (if x7 = true then (if x10 > x6 then (marigraphref09_Span.l1 k x0 x10 x10 true x8 (wrap64 (x9 + 1))) else (marigraphref09_Span.l1 k x0 x10 x6 true x8 (wrap64 (x9 + 1)))) else (marigraphref09_Span.l1 k x0 x10 x10 true x8 (wrap64 (x9 + 1)))) else (if x7 = true then (if x10 > x6 then (marigraphref09_Span.l1 k x0 x5 x10 true x8 (wrap64 (x9 + 1))) else (marigraphref09_Span.l1 k x0 x5 x6 true x8 (wrap64 (x9 + 1)))) else (marigraphref09_Span.l1 k x0 x5 x10 true x8 (wrap64 (x9 + 1))))
end
def marigraphref09_Span.f (k : Nat) (l0 : List (S109)) : Option (Int × Int × Bool) := marigraphref09_Span.l0 k l0 0 0 false 0
theorem marigraphref09_Span.mono_l : ∀ k, (∀ y0 y1 y2 y3 y4, LeO (marigraphref09_Span.l0 k y0 y1 y2 y3 y4) (marigraphref09_Span.l0 (k + 1) y0 y1 y2 y3 y4)) ∧ (∀ y0 y1 y2 y3 y4 y5, LeO (marigraphref09_Span.l1 k y0 y1 y2 y3 y4 y5) (marigraphref09_Span.l1 (k + 1) y0 y1 y2 y3 y4 y5)) ∧ (∀ y0 y1 y2 y3 y4 y5 y6 y7, LeO (marigraphref09_Span.j2 k y0 y1 y2 y3 y4 y5 y6 y7) (marigraphref09_Span.j2 (k + 1) y0 y1 y2 y3 y4 y5 y6 y7))
  | 0 => ⟨fun _ _ _ _ _ r h => by simp [marigraphref09_Span.l0] at h, fun _ _ _ _ _ _ r h => by simp [marigraphref09_Span.l1] at h, fun _ _ _ _ _ _ _ _ r h => by simp [marigraphref09_Span.j2] at h⟩
  | k + 1 => by
    obtain ⟨ih0, ih1, ih2⟩ := marigraphref09_Span.mono_l k
    refine ⟨?_, ?_, ?_⟩
    · intro y0 y1 y2 y3 y4
      unfold marigraphref09_Span.l0
      repeat' first
      | (with_reducible exact ih0 _ _ _ _ _)
      | (with_reducible exact ih1 _ _ _ _ _ _)
      | (with_reducible exact ih2 _ _ _ _ _ _ _ _)
      | (with_reducible exact LeO.refl _)
      | (with_reducible exact LeO.none _)
      | (with_reducible refine LeO.ite ?_ ?_)
      | (with_reducible refine LeO.bind ?_ (fun _ => ?_))
      | exact ih0 _ _ _ _ _
      | exact ih1 _ _ _ _ _ _
      | exact ih2 _ _ _ _ _ _ _ _
      | exact LeO.none _
      | refine LeO.ite ?_ ?_
      | refine LeO.bind ?_ (fun _ => ?_)
    · intro y0 y1 y2 y3 y4 y5
      unfold marigraphref09_Span.l1
      repeat' first
      | (with_reducible exact ih0 _ _ _ _ _)
      | (with_reducible exact ih1 _ _ _ _ _ _)
      | (with_reducible exact ih2 _ _ _ _ _ _ _ _)
      | (with_reducible exact LeO.refl _)
      | (with_reducible exact LeO.none _)
      | (with_reducible refine LeO.ite ?_ ?_)
      | (with_reducible refine LeO.bind ?_ (fun _ => ?_))
      | exact ih0 _ _ _ _ _
      | exact ih1 _ _ _ _ _ _
      | exact ih2 _ _ _ _ _ _ _ _
      | exact LeO.none _
      | refine LeO.ite ?_ ?_
      | refine LeO.bind ?_ (fun _ => ?_)
    · intro y0 y1 y2 y3 y4 y5 y6 y7
      unfold marigraphref09_Span.j2
      repeat' first
      | (with_reducible exact ih0 _ _ _ _ _)
      | (with_reducible exact ih1 _ _ _ _ _ _)
      | (with_reducible exact ih2 _ _ _ _ _ _ _ _)
      | (with_reducible exact LeO.refl _)
      | (with_reducible exact LeO.none _)
      | (with_reducible refine LeO.ite ?_ ?_)
      | (with_reducible refine LeO.bind ?_ (fun _ => ?_))
      | exact ih0 _ _ _ _ _
      | exact ih1 _ _ _ _ _ _
      | exact ih2 _ _ _ _ _ _ _ _
      | exact LeO.none _
      | refine LeO.ite ?_ ?_
      | refine LeO.bind ?_ (fun _ => ?_)
theorem marigraphref09_Span.mono : ∀ a0 k, LeO (marigraphref09_Span.f k a0) (marigraphref09_Span.f (k + 1) a0) := by
  intro a0 k
  obtain ⟨ih0, ih1, ih2⟩ := marigraphref09_Span.mono_l k
  unfold marigraphref09_Span.f
  repeat' first
      | (with_reducible exact ih0 _ _ _ _ _)
      | (with_reducible exact ih1 _ _ _ _ _ _)
      | (with_reducible exact ih2 _ _ _ _ _ _ _ _)
      | (with_reducible exact LeO.refl _)
      | (with_reducible exact LeO.none _)
      | (with_reducible refine LeO.ite ?_ ?_)
      | (with_reducible refine LeO.bind ?_ (fun _ => ?_))
      | exact ih0 _ _ _ _ _
      | exact ih1 _ _ _ _ _ _
      | exact ih2 _ _ _ _ _ _ _ _
      | exact LeO.none _
      | refine LeO.ite ?_ ?_
      | refine LeO.bind ?_ (fun _ => ?_)
set_option maxHeartbeats 8000000 in
set_option maxRecDepth 100000 in
theorem marigraphref09_Span.calls (k : Nat) (A0 : Option Addr) (c0 : Nat) (l0 : List (S109)) (r1 : Int) (r2 : Int) (r3 : Bool) (w : World) (hr0 : Kd.C k109 w A0 l0.length l0) (hc0 : l0.length ≤ c0) (h : marigraphref09_Span.f k l0 = some (r1, r2, r3)) :
    Calls Try.prog 46 #[.slice A0 l0.length c0] w fun e w' => e = .returned (.tuple #[.int .i64 r1, .int .i64 r2, .bool r3]) ∧ Drawn0 w w' := by
  have HR0 := Aside0.mk hr0
  have HC0 := Aside0.mk hc0
  clear hr0 hc0
  have H : (marigraphref09_Span.l0 k l0 0 0 false 0) = some (r1, r2, r3) := h
  clear h
  have H' := Aside0.mk H
  clear H
  go_enter Try.func46, Try.ntmps46
  go_wp2
  go_loopg [5, 6, 7, 8] k (fun kq v5 v6 v7 v8 w' => ∃ (x5_1 : Int) (x6_1 : Int) (x7_1 : Bool) (x8_1 : Int), v5 = .int .i64 x5_1 ∧ v6 = .int .i64 x6_1 ∧ v7 = .bool x7_1 ∧ v8 = .int .i64 x8_1 ∧ Aside0 (marigraphref09_Span.l0 kq l0 x5_1 x6_1 x7_1 x8_1 = some (r1, r2, r3)) ∧ Aside0 (kq ≤ k) ∧ Drawn0 w w')
  case atStart => exact ⟨(0), (0), (false), (0), (by first | rfl | (simp; done) | (simp [*]; done) | (simp <;> grind)), (by first | rfl | (simp; done) | (simp [*]; done) | (simp <;> grind)), (by first | rfl | (simp; done) | (simp [*]; done) | (simp <;> grind)), (by first | rfl | (simp; done) | (simp [*]; done) | (simp <;> grind)), H', ⟨Nat.le_refl _⟩, by repeat (first | exact Drawn0.refl _ | apply Drawn0.step)⟩
  case round =>
    clear H'
    obtain ⟨x5_1, x6_1, x7_1, x8_1, rfl, rfl, rfl, rfl, HA, HK1, ⟨m1, rfl⟩⟩ := hrel
    cases gk with
    | zero => exact absurd HA.out (by simp [marigraphref09_Span.l0])
    | succ k1 =>
      have H := HA.out
      clear HA
      simp only [marigraphref09_Span.l0] at H
      by_cases c2 : x8_1 < (l0.length : Int)
      · rw [if_pos c2] at H
        have c2b0 : decide (x8_1 < (l0.length : Int)) = true := decide_eq_true c2
        clear c2
        have H' := Aside0.mk H
        clear H
        go_wp2
        go_loopg [5, 6, 7, 9] k1 (fun kq v5 v6 v7 v9 w' => ∃ (x5_2 : Int) (x6_2 : Int) (x7_2 : Bool) (x9_2 : Int), v5 = .int .i64 x5_2 ∧ v6 = .int .i64 x6_2 ∧ v7 = .bool x7_2 ∧ v9 = .int .i64 x9_2 ∧ Aside0 (marigraphref09_Span.l1 kq l0 x5_2 x6_2 x7_2 x8_1 x9_2 = some (r1, r2, r3)) ∧ Aside0 (kq ≤ k1) ∧ Drawn0 w w')
        case atStart => exact ⟨(x5_1), (x6_1), (x7_1), (0), (by first | rfl | (simp; done) | (simp [*]; done) | (simp <;> grind)), (by first | rfl | (simp; done) | (simp [*]; done) | (simp <;> grind)), (by first | rfl | (simp; done) | (simp [*]; done) | (simp <;> grind)), (by first | rfl | (simp; done) | (simp [*]; done) | (simp <;> grind)), H', ⟨Nat.le_refl _⟩, by repeat (first | exact Drawn0.refl _ | apply Drawn0.step)⟩
        case round =>
          clear H'
          try clear c2
          try clear c2b0
          try clear p2
          obtain ⟨x5_2, x6_2, x7_2, x9_2, rfl, rfl, rfl, rfl, HA, HK2, ⟨m2, rfl⟩⟩ := hrel
          cases gk with
          | zero => exact absurd HA.out (by simp [marigraphref09_Span.l1])
          | succ k2 =>
            have H := HA.out
            clear HA
            simp only [marigraphref09_Span.l1] at H
            by_cases c3 : 0 ≤ x8_1
            · rw [if_pos c3] at H
              have c3b0 : decide (0 ≤ x8_1) = true := decide_eq_true c3
              clear c3
              by_cases c4 : x8_1 < (l0.length : Int)
              · rw [if_pos c4] at H
                have c4b0 : decide (x8_1 < (l0.length : Int)) = true := decide_eq_true c4
                clear c4
                by_cases c5 : x9_2 < (((rd_T109 l0 x8_1).f1).length : Int)
                · rw [if_pos c5] at H
                  have c5b0 : decide (x9_2 < (((rd_T109 l0 x8_1).f1).length : Int)) = true := decide_eq_true c5
                  clear c5
                  by_cases c6 : 0 ≤ x9_2
                  · rw [if_pos c6] at H
                    have c6b0 : decide (0 ≤ x9_2) = true := decide_eq_true c6
                    clear c6
                    have HC7 := Aside0.mk H
                    clear H
                    have p240 : 0 ≤ (x8_1 : Int) := of_decide_eq_true (by first | (with_reducible assumption) | assumption)
                    have q240 : x8_1 < (l0.length : Int) := of_decide_eq_true (by first | (with_reducible assumption) | assumption)
                    obtain ⟨ad240, A240_1, c240_1, e240, hx240_0, hx240_1, hl240_1, hi240_1⟩ := at_T109 HR0.out x8_1 p240 q240
                    cases e240
                    have HR240_1 := Aside0.mk hi240_1
                    have HC240_1 := Aside0.mk hl240_1
                    clear hi240_1 hl240_1
                    replace p240 := eq_true p240
                    replace q240 := eq_true q240
                    have p241 : 0 ≤ (x8_1 : Int) := of_decide_eq_true (by first | (with_reducible assumption) | assumption)
                    have q241 : x8_1 < (l0.length : Int) := of_decide_eq_true (by first | (with_reducible assumption) | assumption)
                    obtain ⟨ad241, A241_1, c241_1, e241, hx241_0, hx241_1, hl241_1, hi241_1⟩ := at_T109 HR0.out x8_1 p241 q241
                    obtain rfl : ad240 = ad241 := (by injection e241)
                    have HR241_1 := Aside0.mk hi241_1
                    have HC241_1 := Aside0.mk hl241_1
                    clear hi241_1 hl241_1
                    replace p241 := eq_true p241
                    replace q241 := eq_true q241
                    have ea_ := Option.some.inj (hx240_1.symm.trans hx241_1)
                    injection ea_ with ea_ en_ ec_
                    subst ea_
                    subst ec_
                    clear en_
                    have p242 : 0 ≤ (x9_2 : Int) := of_decide_eq_true (by first | (with_reducible assumption) | assumption)
                    have q242 : x9_2 < (((rd_T109 l0 x8_1).f1).length : Int) := of_decide_eq_true (by first | (with_reducible assumption) | assumption)
                    obtain ⟨ad242, e242, hx242_0, hx242_1⟩ := at_T52 HR241_1.out x9_2 p242 q242
                    cases e242
                    replace p242 := eq_true p242
                    replace q242 := eq_true q242
                    go_upto_region 11 with (fail)
                    go_cut [42] (fun v42 wc => ∃ (kq : Nat) (x42_6 : Bool), v42 = .bool x42_6 ∧ Aside0 (marigraphref09_Span.j2 kq l0 x5_2 x6_2 x7_2 x8_1 x9_2 ((rd_T52 ((rd_T109 l0 x8_1).f1) x9_2).f0) x42_6 = some (r1, r2, r3)) ∧ Aside0 (kq ≤ k2) ∧ Drawn0 w wc)
                    case first =>
                      have H := HC7.out
                      clear HC7
                      by_cases c8 : x7_2 = true
                      · subst c8
                        have H1 : (marigraphref09_Span.j2 k2 l0 x5_2 x6_2 true x8_1 x9_2 ((rd_T52 ((rd_T109 l0 x8_1).f1) x9_2).f0) (decide (((rd_T52 ((rd_T109 l0 x8_1).f1) x9_2).f0) < x5_2))) = some (r1, r2, r3) := by rw [if_pos rfl] at H; exact H
                        clear H
                        have H := H1
                        clear H1
                        have H' := Aside0.mk H
                        clear H
                        go_wp2
                        go_meet
                        case rel => exact ⟨_, (decide (((rd_T52 ((rd_T109 l0 x8_1).f1) x9_2).f0) < x5_2)), (by first | rfl | (simp; done) | (simp [*]; done) | (simp <;> grind)), H', ⟨by have := HK1.out; have := HK2.out; first | omega | exact Nat.le_refl _⟩, by repeat (first | exact Drawn0.refl _ | apply Drawn0.step)⟩
                      · replace c8 := Bool.eq_false_iff.mpr c8
                        subst c8
                        have H1 : (marigraphref09_Span.j2 k2 l0 x5_2 x6_2 false x8_1 x9_2 ((rd_T52 ((rd_T109 l0 x8_1).f1) x9_2).f0) true) = some (r1, r2, r3) := by rw [if_neg (show ¬ (false = true) by decide)] at H; exact H
                        clear H
                        have H := H1
                        clear H1
                        have H' := Aside0.mk H
                        clear H
                        go_wp2
                        go_meet
                        case rel => exact ⟨_, (true), (by first | rfl | (simp; done) | (simp [*]; done) | (simp <;> grind)), H', ⟨by have := HK1.out; have := HK2.out; first | omega | exact Nat.le_refl _⟩, by repeat (first | exact Drawn0.refl _ | apply Drawn0.step)⟩
                    case rest =>
                      clear HC7
                      try clear c2
                      try clear c2b0
                      try clear p2
                      try clear q2
                      try clear hx2
                      try clear c3
                      try clear c3b0
                      try clear c4
                      try clear c4b0
                      try clear c5
                      try clear c5b0
                      try clear c6
                      try clear c6b0
                      try clear c8
                      try clear hx240_0
                      try clear hx240_1
                      try clear hx241_0
                      try clear hx241_1
                      try clear hx242_0
                      try clear hx242_1
                      try clear p2
                      try clear p240
                      try clear p241
                      try clear p242
                      try clear q240
                      try clear q241
                      try clear q242
                      obtain ⟨kq, x42_6, rfl, HA, HJ6, ⟨mc6, rfl⟩⟩ := hcut
                      cases kq with
                      | zero => exact absurd HA.out (by simp [marigraphref09_Span.j2])
                      | succ kj6 =>
                        have H := HA.out
                        clear HA
                        simp only [marigraphref09_Span.j2] at H
                        by_cases c9 : x42_6 = true
                        · subst c9
                          have H1 : (if x7_2 = true then (if ((rd_T52 ((rd_T109 l0 x8_1).f1) x9_2).f0) > x6_2 then (marigraphref09_Span.l1 kj6 l0 ((rd_T52 ((rd_T109 l0 x8_1).f1) x9_2).f0) ((rd_T52 ((rd_T109 l0 x8_1).f1) x9_2).f0) true x8_1 (wrap64 (x9_2 + 1))) else (marigraphref09_Span.l1 kj6 l0 ((rd_T52 ((rd_T109 l0 x8_1).f1) x9_2).f0) x6_2 true x8_1 (wrap64 (x9_2 + 1)))) else (marigraphref09_Span.l1 kj6 l0 ((rd_T52 ((rd_T109 l0 x8_1).f1) x9_2).f0) ((rd_T52 ((rd_T109 l0 x8_1).f1) x9_2).f0) true x8_1 (wrap64 (x9_2 + 1)))) = some (r1, r2, r3) := by rw [if_pos rfl] at H; exact H
                          clear H
                          have H := H1
                          clear H1
                          by_cases c10 : x7_2 = true
                          · subst c10
                            have H1 : (if ((rd_T52 ((rd_T109 l0 x8_1).f1) x9_2).f0) > x6_2 then (marigraphref09_Span.l1 kj6 l0 ((rd_T52 ((rd_T109 l0 x8_1).f1) x9_2).f0) ((rd_T52 ((rd_T109 l0 x8_1).f1) x9_2).f0) true x8_1 (wrap64 (x9_2 + 1))) else (marigraphref09_Span.l1 kj6 l0 ((rd_T52 ((rd_T109 l0 x8_1).f1) x9_2).f0) x6_2 true x8_1 (wrap64 (x9_2 + 1)))) = some (r1, r2, r3) := by rw [if_pos rfl] at H; exact H
                            clear H
                            have H := H1
                            clear H1
                            by_cases c11 : ((rd_T52 ((rd_T109 l0 x8_1).f1) x9_2).f0) > x6_2
                            · rw [if_pos c11] at H
                              have c11b0 : decide (x6_2 < ((rd_T52 ((rd_T109 l0 x8_1).f1) x9_2).f0)) = true := decide_eq_true c11
                              clear c11
                              have H' := Aside0.mk H
                              clear H
                              go_wp2
                              go_roundg kj6
                              case measure => have := HK1.out; have := HK2.out; have := HJ6.out; omega
                              case rel => exact ⟨(((rd_T52 ((rd_T109 l0 x8_1).f1) x9_2).f0)), (((rd_T52 ((rd_T109 l0 x8_1).f1) x9_2).f0)), (true), (wrap64 (x9_2 + 1)), (by first | rfl | (simp; done) | (simp [*]; done) | (simp <;> grind)), (by first | rfl | (simp; done) | (simp [*]; done) | (simp <;> grind)), (by first | rfl | (simp; done) | (simp [*]; done) | (simp <;> grind)), (by first | rfl | (simp; done) | (simp [*]; done) | (simp <;> grind)), H', ⟨by have := HK1.out; have := HK2.out; have := HJ6.out; omega⟩, by repeat (first | exact Drawn0.refl _ | apply Drawn0.step)⟩
                            · rw [if_neg c11] at H
                              have c11b0 : decide (x6_2 < ((rd_T52 ((rd_T109 l0 x8_1).f1) x9_2).f0)) = false := decide_eq_false c11
                              clear c11
                              have H' := Aside0.mk H
                              clear H
                              go_wp2
                              go_roundg kj6
                              case measure => have := HK1.out; have := HK2.out; have := HJ6.out; omega
                              case rel => exact ⟨(((rd_T52 ((rd_T109 l0 x8_1).f1) x9_2).f0)), (x6_2), (true), (wrap64 (x9_2 + 1)), (by first | rfl | (simp; done) | (simp [*]; done) | (simp <;> grind)), (by first | rfl | (simp; done) | (simp [*]; done) | (simp <;> grind)), (by first | rfl | (simp; done) | (simp [*]; done) | (simp <;> grind)), (by first | rfl | (simp; done) | (simp [*]; done) | (simp <;> grind)), H', ⟨by have := HK1.out; have := HK2.out; have := HJ6.out; omega⟩, by repeat (first | exact Drawn0.refl _ | apply Drawn0.step)⟩
                          · replace c10 := Bool.eq_false_iff.mpr c10
                            subst c10
                            have H1 : (marigraphref09_Span.l1 kj6 l0 ((rd_T52 ((rd_T109 l0 x8_1).f1) x9_2).f0) ((rd_T52 ((rd_T109 l0 x8_1).f1) x9_2).f0) true x8_1 (wrap64 (x9_2 + 1))) = some (r1, r2, r3) := by rw [if_neg (show ¬ (false = true) by decide)] at H; exact H
                            clear H
                            have H := H1
                            clear H1
                            have H' := Aside0.mk H
                            clear H
                            go_wp2
                            go_roundg kj6
                            case measure => have := HK1.out; have := HK2.out; have := HJ6.out; omega
                            case rel => exact ⟨(((rd_T52 ((rd_T109 l0 x8_1).f1) x9_2).f0)), (((rd_T52 ((rd_T109 l0 x8_1).f1) x9_2).f0)), (true), (wrap64 (x9_2 + 1)), (by first | rfl | (simp; done) | (simp [*]; done) | (simp <;> grind)), (by first | rfl | (simp; done) | (simp [*]; done) | (simp <;> grind)), (by first | rfl | (simp; done) | (simp [*]; done) | (simp <;> grind)), (by first | rfl | (simp; done) | (simp [*]; done) | (simp <;> grind)), H', ⟨by have := HK1.out; have := HK2.out; have := HJ6.out; omega⟩, by repeat (first | exact Drawn0.refl _ | apply Drawn0.step)⟩
                        · replace c9 := Bool.eq_false_iff.mpr c9
                          subst c9
                          have H1 : (if x7_2 = true then (if ((rd_T52 ((rd_T109 l0 x8_1).f1) x9_2).f0) > x6_2 then (marigraphref09_Span.l1 kj6 l0 x5_2 ((rd_T52 ((rd_T109 l0 x8_1).f1) x9_2).f0) true x8_1 (wrap64 (x9_2 + 1))) else (marigraphref09_Span.l1 kj6 l0 x5_2 x6_2 true x8_1 (wrap64 (x9_2 + 1)))) else (marigraphref09_Span.l1 kj6 l0 x5_2 ((rd_T52 ((rd_T109 l0 x8_1).f1) x9_2).f0) true x8_1 (wrap64 (x9_2 + 1)))) = some (r1, r2, r3) := by rw [if_neg (show ¬ (false = true) by decide)] at H; exact H
                          clear H
                          have H := H1
                          clear H1
                          by_cases c12 : x7_2 = true
                          · subst c12
                            have H1 : (if ((rd_T52 ((rd_T109 l0 x8_1).f1) x9_2).f0) > x6_2 then (marigraphref09_Span.l1 kj6 l0 x5_2 ((rd_T52 ((rd_T109 l0 x8_1).f1) x9_2).f0) true x8_1 (wrap64 (x9_2 + 1))) else (marigraphref09_Span.l1 kj6 l0 x5_2 x6_2 true x8_1 (wrap64 (x9_2 + 1)))) = some (r1, r2, r3) := by rw [if_pos rfl] at H; exact H
                            clear H
                            have H := H1
                            clear H1
                            by_cases c13 : ((rd_T52 ((rd_T109 l0 x8_1).f1) x9_2).f0) > x6_2
                            · rw [if_pos c13] at H
                              have c13b0 : decide (x6_2 < ((rd_T52 ((rd_T109 l0 x8_1).f1) x9_2).f0)) = true := decide_eq_true c13
                              clear c13
                              have H' := Aside0.mk H
                              clear H
                              go_wp2
                              go_roundg kj6
                              case measure => have := HK1.out; have := HK2.out; have := HJ6.out; omega
                              case rel => exact ⟨(x5_2), (((rd_T52 ((rd_T109 l0 x8_1).f1) x9_2).f0)), (true), (wrap64 (x9_2 + 1)), (by first | rfl | (simp; done) | (simp [*]; done) | (simp <;> grind)), (by first | rfl | (simp; done) | (simp [*]; done) | (simp <;> grind)), (by first | rfl | (simp; done) | (simp [*]; done) | (simp <;> grind)), (by first | rfl | (simp; done) | (simp [*]; done) | (simp <;> grind)), H', ⟨by have := HK1.out; have := HK2.out; have := HJ6.out; omega⟩, by repeat (first | exact Drawn0.refl _ | apply Drawn0.step)⟩
                            · rw [if_neg c13] at H
                              have c13b0 : decide (x6_2 < ((rd_T52 ((rd_T109 l0 x8_1).f1) x9_2).f0)) = false := decide_eq_false c13
                              clear c13
                              have H' := Aside0.mk H
                              clear H
                              go_wp2
                              go_roundg kj6
                              case measure => have := HK1.out; have := HK2.out; have := HJ6.out; omega
                              case rel => exact ⟨(x5_2), (x6_2), (true), (wrap64 (x9_2 + 1)), (by first | rfl | (simp; done) | (simp [*]; done) | (simp <;> grind)), (by first | rfl | (simp; done) | (simp [*]; done) | (simp <;> grind)), (by first | rfl | (simp; done) | (simp [*]; done) | (simp <;> grind)), (by first | rfl | (simp; done) | (simp [*]; done) | (simp <;> grind)), H', ⟨by have := HK1.out; have := HK2.out; have := HJ6.out; omega⟩, by repeat (first | exact Drawn0.refl _ | apply Drawn0.step)⟩
                          · replace c12 := Bool.eq_false_iff.mpr c12
                            subst c12
                            have H1 : (marigraphref09_Span.l1 kj6 l0 x5_2 ((rd_T52 ((rd_T109 l0 x8_1).f1) x9_2).f0) true x8_1 (wrap64 (x9_2 + 1))) = some (r1, r2, r3) := by rw [if_neg (show ¬ (false = true) by decide)] at H; exact H
                            clear H
                            have H := H1
                            clear H1
                            have H' := Aside0.mk H
                            clear H
                            go_wp2
                            go_roundg kj6
                            case measure => have := HK1.out; have := HK2.out; have := HJ6.out; omega
                            case rel => exact ⟨(x5_2), (((rd_T52 ((rd_T109 l0 x8_1).f1) x9_2).f0)), (true), (wrap64 (x9_2 + 1)), (by first | rfl | (simp; done) | (simp [*]; done) | (simp <;> grind)), (by first | rfl | (simp; done) | (simp [*]; done) | (simp <;> grind)), (by first | rfl | (simp; done) | (simp [*]; done) | (simp <;> grind)), (by first | rfl | (simp; done) | (simp [*]; done) | (simp <;> grind)), H', ⟨by have := HK1.out; have := HK2.out; have := HJ6.out; omega⟩, by repeat (first | exact Drawn0.refl _ | apply Drawn0.step)⟩
                  · rw [if_neg c6] at H
                    exact absurd H (by simp)
                · rw [if_neg c5] at H
                  have c5b0 : decide (x9_2 < (((rd_T109 l0 x8_1).f1).length : Int)) = false := decide_eq_false c5
                  clear c5
                  have H' := Aside0.mk H
                  clear H
                  have p240 : 0 ≤ (x8_1 : Int) := of_decide_eq_true (by first | (with_reducible assumption) | assumption)
                  have q240 : x8_1 < (l0.length : Int) := of_decide_eq_true (by first | (with_reducible assumption) | assumption)
                  obtain ⟨ad240, A240_1, c240_1, e240, hx240_0, hx240_1, hl240_1, hi240_1⟩ := at_T109 HR0.out x8_1 p240 q240
                  cases e240
                  have HR240_1 := Aside0.mk hi240_1
                  have HC240_1 := Aside0.mk hl240_1
                  clear hi240_1 hl240_1
                  replace p240 := eq_true p240
                  replace q240 := eq_true q240
                  go_wp2
                  go_roundg k2
                  case measure => have := HK1.out; have := HK2.out; omega
                  case rel => exact ⟨(x5_2), (x6_2), (x7_2), (wrap64 (x8_1 + 1)), (by first | rfl | (simp; done) | (simp [*]; done) | (simp <;> grind)), (by first | rfl | (simp; done) | (simp [*]; done) | (simp <;> grind)), (by first | rfl | (simp; done) | (simp [*]; done) | (simp <;> grind)), (by first | rfl | (simp; done) | (simp [*]; done) | (simp <;> grind)), H', ⟨by have := HK1.out; have := HK2.out; omega⟩, by repeat (first | exact Drawn0.refl _ | apply Drawn0.step)⟩
              · rw [if_neg c4] at H
                exact absurd H (by simp)
            · rw [if_neg c3] at H
              exact absurd H (by simp)
      · rw [if_neg c2] at H
        have c2b0 : decide (x8_1 < (l0.length : Int)) = false := decide_eq_false c2
        clear c2
        simp only [Option.some.injEq, Prod.mk.injEq] at H
        obtain ⟨rfl, rfl, rfl⟩ := H
        go_wp2
        go_ret3
        exact ⟨by first | rfl | (simp; done) | (simp [*]; done) | (simp <;> grind), by repeat (first | exact Drawn0.refl _ | apply Drawn0.step)⟩

end Go.Proofs.Ythkpnnbjcendcaa.X

