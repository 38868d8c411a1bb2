-- By xprint.py, out of the translation's own print. Lean checks it.
import Derived.Test.YtjkpdjadbeidnaaX0
import Derived.Test.YtjkpdjadbeidnaaX18
import Derived.Test.YtjkpdjadbeidnaaX21
namespace Go.Proofs.Ytjkpdjadbeidnaa.X
open Go.RowKit Go.Proofs.YtjkpdjadbeidnaaW.PrintWords Go.Proofs.YtjkpdjadbeidnaaW.PrintLast Go.Proofs.YtjkpdjadbeidnaaW.PrintMore
attribute [local go_sem] max2_int min2_int max_two min_two max_three min_three max_four min_four   -- for this text's walks alone
set_option linter.unusedVariables false
set_option linter.unusedSimpArgs false

attribute [local go_sem high] idxA80
/-! ### marigraphref12_Buckets: function 38 -/
mutual
def marigraphref12_Buckets.j0 : Nat → List (S33) → Int → Int → Int → Bool → Option ((List (S68)) × Int)
  | 0, _, _, _, _, _ => none
  | k + 1, x0, x1, x2, x3, x35 => if x35 = true then (some (([] : List (S68)), 1)) else (if x3 = 0 then (none) else (if (wrap64 ((wrap64 (Int.tdiv (wrap64 ((wrap64 (x2 - x1)) - 1)) x3)) + 1)) > 200 then (some (([] : List (S68)), 3)) else (marigraphref12_Buckets.l0 k x0 x2 x3 ([] : List (S68)) x1)))
def marigraphref12_Buckets.l0 : Nat → List (S33) → Int → Int → List (S68) → Int → Option ((List (S68)) × Int)
  | 0, _, _, _, _, _ => none
  | k + 1, x0, x2, x3, x10, x11 => if x11 < x2 then (if x3 < (wrap64 (x2 - x11)) then (marigraphref12_Buckets.j2 k x0 x2 x3 x10 x11 (wrap64 (x11 + x3))) else (marigraphref12_Buckets.j2 k x0 x2 x3 x10 x11 x2)) else (some (x10, 0))
def marigraphref12_Buckets.j2 : Nat → List (S33) → Int → Int → List (S68) → Int → Int → Option ((List (S68)) × Int)
  | 0, _, _, _, _, _, _ => none
  | k + 1, x0, x2, x3, x10, x11, x12 => (marigraphref12_Within.f k x0 x11 x12).bind fun t462 => (if (t462.length : Int) > 0 then ((marigraphref12_Of.f k t462).bind fun bt465 => (if x10.length < 2513169434916 then (marigraphref12_Buckets.l0 k x0 x2 x3 (x10 ++ [(⟨x11, (⟨bt465.1, bt465.2.1, bt465.2.2.1, bt465.2.2.2.1, bt465.2.2.2.2.1, bt465.2.2.2.2.2⟩ : S50)⟩ : S68)]) x12) else (none))) else (marigraphref12_Buckets.l0 k x0 x2 x3 x10 x12))
end
def marigraphref12_Buckets.f (k : Nat) (l0 : List (S33)) (a1 : Int) (a2 : Int) (a3 : Int) : Option ((List (S68)) × Int) := (marigraphref04_Right.f k l0).bind fun t459 => (if t459 = true then (if a1 ≥ a2 then (marigraphref12_Buckets.j0 k l0 a1 a2 a3 true) else (if a3 < 1 then (marigraphref12_Buckets.j0 k l0 a1 a2 a3 true) else ((marigraphref12_near.f a1).bind fun t460 => (if t460 = true then ((marigraphref12_near.f a2).bind fun t461 => (marigraphref12_Buckets.j0 k l0 a1 a2 a3 (!t461))) else (marigraphref12_Buckets.j0 k l0 a1 a2 a3 true))))) else (marigraphref12_Buckets.j0 k l0 a1 a2 a3 true))
theorem marigraphref12_Buckets.mono_l : ∀ k, (∀ y0 y1 y2 y3 y4, LeO (marigraphref12_Buckets.j0 k y0 y1 y2 y3 y4) (marigraphref12_Buckets.j0 (k + 1) y0 y1 y2 y3 y4)) ∧ (∀ y0 y1 y2 y3 y4, LeO (marigraphref12_Buckets.l0 k y0 y1 y2 y3 y4) (marigraphref12_Buckets.l0 (k + 1) y0 y1 y2 y3 y4)) ∧ (∀ y0 y1 y2 y3 y4 y5, LeO (marigraphref12_Buckets.j2 k y0 y1 y2 y3 y4 y5) (marigraphref12_Buckets.j2 (k + 1) y0 y1 y2 y3 y4 y5))
  | 0 => ⟨fun _ _ _ _ _ r h => by simp [marigraphref12_Buckets.j0] at h, fun _ _ _ _ _ r h => by simp [marigraphref12_Buckets.l0] at h, fun _ _ _ _ _ _ r h => by simp [marigraphref12_Buckets.j2] at h⟩
  | k + 1 => by
    obtain ⟨ih0, ih1, ih2⟩ := marigraphref12_Buckets.mono_l k
    refine ⟨?_, ?_, ?_⟩
    · intro y0 y1 y2 y3 y4
      unfold marigraphref12_Buckets.j0
      repeat' first
      | (with_reducible exact ih0 _ _ _ _ _)
      | (with_reducible exact ih1 _ _ _ _ _)
      | (with_reducible exact ih2 _ _ _ _ _ _)
      | (with_reducible exact marigraphref04_Right.mono _ _)
      | (with_reducible exact marigraphref12_Of.mono _ _)
      | (with_reducible exact marigraphref12_Within.mono _ _ _ _)
      | (with_reducible exact LeO.refl _)
      | (with_reducible exact LeO.none _)
      | (with_reducible refine LeO.ite ?_ ?_)
      | (with_reducible refine LeO.bind ?_ (fun _ => ?_))
      | exact ih0 _ _ _ _ _
      | exact ih1 _ _ _ _ _
      | exact ih2 _ _ _ _ _ _
      | exact marigraphref04_Right.mono _ _
      | exact marigraphref12_Of.mono _ _
      | exact marigraphref12_Within.mono _ _ _ _
      | exact LeO.none _
      | refine LeO.ite ?_ ?_
      | refine LeO.bind ?_ (fun _ => ?_)
    · intro y0 y1 y2 y3 y4
      unfold marigraphref12_Buckets.l0
      repeat' first
      | (with_reducible exact ih0 _ _ _ _ _)
      | (with_reducible exact ih1 _ _ _ _ _)
      | (with_reducible exact ih2 _ _ _ _ _ _)
      | (with_reducible exact marigraphref04_Right.mono _ _)
      | (with_reducible exact marigraphref12_Of.mono _ _)
      | (with_reducible exact marigraphref12_Within.mono _ _ _ _)
      | (with_reducible exact LeO.refl _)
      | (with_reducible exact LeO.none _)
      | (with_reducible refine LeO.ite ?_ ?_)
      | (with_reducible refine LeO.bind ?_ (fun _ => ?_))
      | exact ih0 _ _ _ _ _
      | exact ih1 _ _ _ _ _
      | exact ih2 _ _ _ _ _ _
      | exact marigraphref04_Right.mono _ _
      | exact marigraphref12_Of.mono _ _
      | exact marigraphref12_Within.mono _ _ _ _
      | exact LeO.none _
      | refine LeO.ite ?_ ?_
      | refine LeO.bind ?_ (fun _ => ?_)
    · intro y0 y1 y2 y3 y4 y5
      unfold marigraphref12_Buckets.j2
      repeat' first
      | (with_reducible exact ih0 _ _ _ _ _)
      | (with_reducible exact ih1 _ _ _ _ _)
      | (with_reducible exact ih2 _ _ _ _ _ _)
      | (with_reducible exact marigraphref04_Right.mono _ _)
      | (with_reducible exact marigraphref12_Of.mono _ _)
      | (with_reducible exact marigraphref12_Within.mono _ _ _ _)
      | (with_reducible exact LeO.refl _)
      | (with_reducible exact LeO.none _)
      | (with_reducible refine LeO.ite ?_ ?_)
      | (with_reducible refine LeO.bind ?_ (fun _ => ?_))
      | exact ih0 _ _ _ _ _
      | exact ih1 _ _ _ _ _
      | exact ih2 _ _ _ _ _ _
      | exact marigraphref04_Right.mono _ _
      | exact marigraphref12_Of.mono _ _
      | exact marigraphref12_Within.mono _ _ _ _
      | exact LeO.none _
      | refine LeO.ite ?_ ?_
      | refine LeO.bind ?_ (fun _ => ?_)
theorem marigraphref12_Buckets.mono : ∀ a0 a1 a2 a3 k, LeO (marigraphref12_Buckets.f k a0 a1 a2 a3) (marigraphref12_Buckets.f (k + 1) a0 a1 a2 a3) := by
  intro a0 a1 a2 a3 k
  obtain ⟨ih0, ih1, ih2⟩ := marigraphref12_Buckets.mono_l k
  unfold marigraphref12_Buckets.f
  repeat' first
      | (with_reducible exact ih0 _ _ _ _ _)
      | (with_reducible exact ih1 _ _ _ _ _)
      | (with_reducible exact ih2 _ _ _ _ _ _)
      | (with_reducible exact marigraphref04_Right.mono _ _)
      | (with_reducible exact marigraphref12_Of.mono _ _)
      | (with_reducible exact marigraphref12_Within.mono _ _ _ _)
      | (with_reducible exact LeO.refl _)
      | (with_reducible exact LeO.none _)
      | (with_reducible refine LeO.ite ?_ ?_)
      | (with_reducible refine LeO.bind ?_ (fun _ => ?_))
      | exact ih0 _ _ _ _ _
      | exact ih1 _ _ _ _ _
      | exact ih2 _ _ _ _ _ _
      | exact marigraphref04_Right.mono _ _
      | exact marigraphref12_Of.mono _ _
      | exact marigraphref12_Within.mono _ _ _ _
      | exact LeO.none _
      | refine LeO.ite ?_ ?_
      | refine LeO.bind ?_ (fun _ => ?_)
set_option maxHeartbeats 8000000 in
set_option maxRecDepth 100000 in
theorem marigraphref12_Buckets.calls (k : Nat) (A0 : Option Addr) (c0 : Nat) (l0 : List (S33)) (a1 : Int) (a2 : Int) (a3 : Int) (r1 : List (S68)) (r2 : Int) (w : World) (hr0 : Kd.C k33 w A0 l0.length l0) (hc0 : l0.length ≤ c0) (h : marigraphref12_Buckets.f k l0 a1 a2 a3 = some (r1, r2)) :
    Calls Try.prog 38 #[.slice A0 l0.length c0, .int .i64 a1, .int .i64 a2, .int .i64 a3] w fun e w' => ∃ v0_ : Value, e = .returned (.tuple #[v0_, .int .i64 r2]) ∧ Kd.R k68 68 w' w.heap.size (fun _ => True) v0_ r1 ∧ Below w.heap.size w w' := by
  have hu68 := Try.underlying68
  have HR0 := Aside0.mk hr0
  have HC0 := Aside0.mk hc0
  clear hr0 hc0
  have HB := Aside0.mk (Below.refl w.heap.size w)
  have H : ((marigraphref04_Right.f k l0).bind fun t459 => (if t459 = true then (if a1 ≥ a2 then (marigraphref12_Buckets.j0 k l0 a1 a2 a3 true) else (if a3 < 1 then (marigraphref12_Buckets.j0 k l0 a1 a2 a3 true) else ((marigraphref12_near.f a1).bind fun t460 => (if t460 = true then ((marigraphref12_near.f a2).bind fun t461 => (marigraphref12_Buckets.j0 k l0 a1 a2 a3 (!t461))) else (marigraphref12_Buckets.j0 k l0 a1 a2 a3 true))))) else (marigraphref12_Buckets.j0 k l0 a1 a2 a3 true))) = some (r1, r2) := h
  clear h
  have HC5 := Aside0.mk H
  clear H
  go_enter Try.func38, Try.ntmps38
  go_upto_region 1 with (fail)
  go_cut [35] (fun v35 wc => ∃ (kq : Nat) (x35_4 : Bool), v35 = .bool x35_4 ∧ Aside0 (marigraphref12_Buckets.j0 kq l0 a1 a2 a3 x35_4 = some (r1, r2)) ∧ Aside0 (kq ≤ k) ∧ Aside0 (Below w.heap.size w wc))
  case first =>
    have H := HC5.out
    clear HC5
    replace H := Option.bind_eq_some_iff.mp H
    obtain ⟨t459, A60, H⟩ := H
    replace H : (if t459 = true then (if a1 ≥ a2 then (marigraphref12_Buckets.j0 k l0 a1 a2 a3 true) else (if a3 < 1 then (marigraphref12_Buckets.j0 k l0 a1 a2 a3 true) else ((marigraphref12_near.f a1).bind fun t460 => (if t460 = true then ((marigraphref12_near.f a2).bind fun t461 => (marigraphref12_Buckets.j0 k l0 a1 a2 a3 (!t461))) else (marigraphref12_Buckets.j0 k l0 a1 a2 a3 true))))) else (marigraphref12_Buckets.j0 k l0 a1 a2 a3 true)) = some (r1, r2) := H
    have A6 := Aside0.mk A60
    clear A60
    by_cases c7 : t459 = true
    · subst c7
      have H1 : (if a1 ≥ a2 then (marigraphref12_Buckets.j0 k l0 a1 a2 a3 true) else (if a3 < 1 then (marigraphref12_Buckets.j0 k l0 a1 a2 a3 true) else ((marigraphref12_near.f a1).bind fun t460 => (if t460 = true then ((marigraphref12_near.f a2).bind fun t461 => (marigraphref12_Buckets.j0 k l0 a1 a2 a3 (!t461))) else (marigraphref12_Buckets.j0 k l0 a1 a2 a3 true))))) = some (r1, r2) := by rw [if_pos rfl] at H; exact H
      clear H
      have H := H1
      clear H1
      by_cases c8 : a1 ≥ a2
      · rw [if_pos c8] at H
        have c8b0 : decide (a2 ≤ a1) = true := decide_eq_true c8
        clear c8
        (first | rw [c8b0] | (simp only [i64_w, i32_w]; rw [c8b0]) | skip)
        have H' := Aside0.mk H
        clear H
        go_wp2_with (first | ((with_reducible refine gate_callee (f := 40) rfl ?_); refine goesL_ (some 15) rfl rfl Try.func40 (by kernel_rfl) rfl #[.slice A0 l0.length c0] rfl (by (try simp only [List.map_toArray, List.map_cons, List.map_nil]); first | done | rfl | (simp only [List.length_drop, List.length_take]; rfl)) ?_; (with_reducible refine (marigraphref04_Right.calls k _ _ l0 true _ ?side1 ?side2 A6.out).mono ?_); (case side1 => repeat (first | exact (Kd.C_below HR0.out HB.out) | (with_reducible refine Kd.C_alloc ?_ _) | (with_reducible refine Kd.C_drewN ?_ _) | (with_reducible refine Kd.C_drew ?_))); (case side2 => exact HC0.out); rintro e w' ⟨rfl, ⟨nd, rfl⟩⟩; refine ⟨_, rfl, ?_⟩))
        go_meet
        case rel => exact ⟨_, (true), (by first | rfl | (simp; done) | (simp [*]; done) | (simp <;> grind)), H', ⟨by first | omega | exact Nat.le_refl _⟩, ⟨by repeat (first | (with_reducible first | exact HB.out | apply below_alloc | apply pw_below_drewN | apply below_drew1) | exact HB.out)⟩⟩
      · rw [if_neg c8] at H
        have c8b0 : decide (a2 ≤ a1) = false := decide_eq_false c8
        clear c8
        (first | rw [c8b0] | (simp only [i64_w, i32_w]; rw [c8b0]) | skip)
        by_cases c9 : a3 < 1
        · rw [if_pos c9] at H
          have c9b0 : decide (a3 < 1) = true := decide_eq_true c9
          clear c9
          have H' := Aside0.mk H
          clear H
          go_wp2_with (first | ((with_reducible refine gate_callee (f := 40) rfl ?_); refine goesL_ (some 15) rfl rfl Try.func40 (by kernel_rfl) rfl #[.slice A0 l0.length c0] rfl (by (try simp only [List.map_toArray, List.map_cons, List.map_nil]); first | done | rfl | (simp only [List.length_drop, List.length_take]; rfl)) ?_; (with_reducible refine (marigraphref04_Right.calls k _ _ l0 true _ ?side1 ?side2 A6.out).mono ?_); (case side1 => repeat (first | exact (Kd.C_below HR0.out HB.out) | (with_reducible refine Kd.C_alloc ?_ _) | (with_reducible refine Kd.C_drewN ?_ _) | (with_reducible refine Kd.C_drew ?_))); (case side2 => exact HC0.out); rintro e w' ⟨rfl, ⟨nd, rfl⟩⟩; refine ⟨_, rfl, ?_⟩))
          go_meet
          case rel => exact ⟨_, (true), (by first | rfl | (simp; done) | (simp [*]; done) | (simp <;> grind)), H', ⟨by first | omega | exact Nat.le_refl _⟩, ⟨by repeat (first | (with_reducible first | exact HB.out | apply below_alloc | apply pw_below_drewN | apply below_drew1) | exact HB.out)⟩⟩
        · rw [if_neg c9] at H
          have c9b0 : decide (a3 < 1) = false := decide_eq_false c9
          clear c9
          replace H := Option.bind_eq_some_iff.mp H
          obtain ⟨t460, A100, H⟩ := H
          replace H : (if t460 = true then ((marigraphref12_near.f a2).bind fun t461 => (marigraphref12_Buckets.j0 k l0 a1 a2 a3 (!t461))) else (marigraphref12_Buckets.j0 k l0 a1 a2 a3 true)) = some (r1, r2) := H
          have A10 := Aside0.mk A100
          clear A100
          by_cases c11 : t460 = true
          · subst c11
            have H1 : ((marigraphref12_near.f a2).bind fun t461 => (marigraphref12_Buckets.j0 k l0 a1 a2 a3 (!t461))) = some (r1, r2) := by rw [if_pos rfl] at H; exact H
            clear H
            have H := H1
            clear H1
            replace H := Option.bind_eq_some_iff.mp H
            obtain ⟨t461, A120, H⟩ := H
            replace H : (marigraphref12_Buckets.j0 k l0 a1 a2 a3 (!t461)) = some (r1, r2) := H
            have A12 := Aside0.mk A120
            clear A120
            have H' := Aside0.mk H
            clear H
            go_wp2_with (first | ((with_reducible refine gate_callee (f := 40) rfl ?_); refine goesL_ (some 15) rfl rfl Try.func40 (by kernel_rfl) rfl #[.slice A0 l0.length c0] rfl (by (try simp only [List.map_toArray, List.map_cons, List.map_nil]); first | done | rfl | (simp only [List.length_drop, List.length_take]; rfl)) ?_; (with_reducible refine (marigraphref04_Right.calls k _ _ l0 true _ ?side1 ?side2 A6.out).mono ?_); (case side1 => repeat (first | exact (Kd.C_below HR0.out HB.out) | (with_reducible refine Kd.C_alloc ?_ _) | (with_reducible refine Kd.C_drewN ?_ _) | (with_reducible refine Kd.C_drew ?_))); (case side2 => exact HC0.out); rintro e w' ⟨rfl, ⟨nd, rfl⟩⟩; refine ⟨_, rfl, ?_⟩) | (go_at_call 50; (with_reducible refine (marigraphref12_near.calls a1 true _ A10.out).mono ?_); rintro e w' ⟨rfl, ⟨nd, rfl⟩⟩) | (go_at_call 50; (with_reducible refine (marigraphref12_near.calls a2 t461 _ A12.out).mono ?_); rintro e w' ⟨rfl, ⟨nd, rfl⟩⟩))
            go_meet
            case rel => exact ⟨_, (!t461), (by first | rfl | (simp; done) | (simp [*]; done) | (simp <;> grind)), H', ⟨by first | omega | exact Nat.le_refl _⟩, ⟨by repeat (first | (with_reducible first | exact HB.out | apply below_alloc | apply pw_below_drewN | apply below_drew1) | exact HB.out)⟩⟩
          · replace c11 := Bool.eq_false_iff.mpr c11
            subst c11
            have H1 : (marigraphref12_Buckets.j0 k l0 a1 a2 a3 true) = some (r1, r2) := by rw [if_neg (show ¬ (false = true) by decide)] at H; exact H
            clear H
            have H := H1
            clear H1
            have H' := Aside0.mk H
            clear H
            go_wp2_with (first | ((with_reducible refine gate_callee (f := 40) rfl ?_); refine goesL_ (some 15) rfl rfl Try.func40 (by kernel_rfl) rfl #[.slice A0 l0.length c0] rfl (by (try simp only [List.map_toArray, List.map_cons, List.map_nil]); first | done | rfl | (simp only [List.length_drop, List.length_take]; rfl)) ?_; (with_reducible refine (marigraphref04_Right.calls k _ _ l0 true _ ?side1 ?side2 A6.out).mono ?_); (case side1 => repeat (first | exact (Kd.C_below HR0.out HB.out) | (with_reducible refine Kd.C_alloc ?_ _) | (with_reducible refine Kd.C_drewN ?_ _) | (with_reducible refine Kd.C_drew ?_))); (case side2 => exact HC0.out); rintro e w' ⟨rfl, ⟨nd, rfl⟩⟩; refine ⟨_, rfl, ?_⟩) | (go_at_call 50; (with_reducible refine (marigraphref12_near.calls a1 false _ A10.out).mono ?_); rintro e w' ⟨rfl, ⟨nd, rfl⟩⟩))
            go_meet
            case rel => exact ⟨_, (true), (by first | rfl | (simp; done) | (simp [*]; done) | (simp <;> grind)), H', ⟨by first | omega | exact Nat.le_refl _⟩, ⟨by repeat (first | (with_reducible first | exact HB.out | apply below_alloc | apply pw_below_drewN | apply below_drew1) | exact HB.out)⟩⟩
    · replace c7 := Bool.eq_false_iff.mpr c7
      subst c7
      have H1 : (marigraphref12_Buckets.j0 k l0 a1 a2 a3 true) = some (r1, r2) := by rw [if_neg (show ¬ (false = true) by decide)] at H; exact H
      clear H
      have H := H1
      clear H1
      have H' := Aside0.mk H
      clear H
      go_wp2_with (first | ((with_reducible refine gate_callee (f := 40) rfl ?_); refine goesL_ (some 15) rfl rfl Try.func40 (by kernel_rfl) rfl #[.slice A0 l0.length c0] rfl (by (try simp only [List.map_toArray, List.map_cons, List.map_nil]); first | done | rfl | (simp only [List.length_drop, List.length_take]; rfl)) ?_; (with_reducible refine (marigraphref04_Right.calls k _ _ l0 false _ ?side1 ?side2 A6.out).mono ?_); (case side1 => repeat (first | exact (Kd.C_below HR0.out HB.out) | (with_reducible refine Kd.C_alloc ?_ _) | (with_reducible refine Kd.C_drewN ?_ _) | (with_reducible refine Kd.C_drew ?_))); (case side2 => exact HC0.out); rintro e w' ⟨rfl, ⟨nd, rfl⟩⟩; refine ⟨_, rfl, ?_⟩))
      go_meet
      case rel => exact ⟨_, (true), (by first | rfl | (simp; done) | (simp [*]; done) | (simp <;> grind)), H', ⟨by first | omega | exact Nat.le_refl _⟩, ⟨by repeat (first | (with_reducible first | exact HB.out | apply below_alloc | apply pw_below_drewN | apply below_drew1) | exact HB.out)⟩⟩
  case rest =>
    clear HC5
    try clear c1
    try clear p2
    try clear c3
    try clear c4
    try clear c7
    try clear c8
    try clear c8b0
    try clear c9
    try clear c9b0
    try clear c11
    obtain ⟨kq, x35_4, rfl, HA, HJ4, HB⟩ := hcut
    cases kq with
    | zero => exact absurd HA.out (by simp [marigraphref12_Buckets.j0])
    | succ kj4 =>
      have H := HA.out
      clear HA
      simp only [marigraphref12_Buckets.j0] at H
      by_cases c13 : x35_4 = true
      · subst c13
        have H1 : (some (([] : List (S68)), 1)) = some (r1, r2) := by rw [if_pos rfl] at H; exact H
        clear H
        have H := H1
        clear H1
        simp only [Option.some.injEq, Prod.mk.injEq] at H
        obtain ⟨rfl, rfl⟩ := H
        go_wp2
        go_ret2
        exact ⟨_, by first | rfl | (simp [errW_none, errW_some] <;> rfl) | (simp [*, errW_none, errW_some] <;> rfl), by first | exact Kd.R_nil _ _ _ _ _ | exact Kd.N_nil _ _ _ _ _ | exact Kd.V_nil _ _ _ _ _ | exact Kd.Q_nil _ _ _ _ _ | exact Kd.S_nil _ _ _ _ _, by repeat (first | (with_reducible first | exact HB.out | apply below_alloc | apply pw_below_drewN | apply below_drew1) | exact HB.out)⟩
      · replace c13 := Bool.eq_false_iff.mpr c13
        subst c13
        have H1 : (if a3 = 0 then (none) else (if (wrap64 ((wrap64 (Int.tdiv (wrap64 ((wrap64 (a2 - a1)) - 1)) a3)) + 1)) > 200 then (some (([] : List (S68)), 3)) else (marigraphref12_Buckets.l0 kj4 l0 a2 a3 ([] : List (S68)) a1))) = some (r1, r2) := by rw [if_neg (show ¬ (false = true) by decide)] at H; exact H
        clear H
        have H := H1
        clear H1
        by_cases c14 : a3 = 0
        · rw [if_pos c14] at H
          exact absurd H (by simp)
        · rw [if_neg c14] at H
          have c14b0 : (a3 == 0) = false := beq_eq_false_iff_ne.mpr c14
          have c14b1 : (a3 != 0) = true := bne_iff_ne.mpr c14
          by_cases c15 : (wrap64 ((wrap64 (Int.tdiv (wrap64 ((wrap64 (a2 - a1)) - 1)) a3)) + 1)) > 200
          · rw [if_pos c15] at H
            have c15b0 : decide (200 < (wrap64 ((wrap64 (Int.tdiv (wrap64 ((wrap64 (a2 - a1)) - 1)) a3)) + 1))) = true := decide_eq_true c15
            clear c15
            simp only [Option.some.injEq, Prod.mk.injEq] at H
            obtain ⟨rfl, rfl⟩ := H
            go_wp2
            go_ret2
            exact ⟨_, by first | rfl | (simp [errW_none, errW_some] <;> rfl) | (simp [*, errW_none, errW_some] <;> rfl), by first | exact Kd.R_nil _ _ _ _ _ | exact Kd.N_nil _ _ _ _ _ | exact Kd.V_nil _ _ _ _ _ | exact Kd.Q_nil _ _ _ _ _ | exact Kd.S_nil _ _ _ _ _, by repeat (first | (with_reducible first | exact HB.out | apply below_alloc | apply pw_below_drewN | apply below_drew1) | exact HB.out)⟩
          · rw [if_neg c15] at H
            have c15b0 : decide (200 < (wrap64 ((wrap64 (Int.tdiv (wrap64 ((wrap64 (a2 - a1)) - 1)) a3)) + 1))) = false := decide_eq_false c15
            clear c15
            have H' := Aside0.mk H
            clear H
            go_wp2
            go_loopg [10, 11] kj4 (fun kq v10 v11 w' => ∃ (x10_2 : List (S68)) (x11_2 : Int), v11 = .int .i64 x11_2 ∧ Aside0 (marigraphref12_Buckets.l0 kq l0 a2 a3 x10_2 x11_2 = some (r1, r2)) ∧ Aside0 (kq ≤ kj4) ∧ Aside0 (Kd.R k68 68 w' w.heap.size (fun _ => True) v10 x10_2) ∧ Aside0 (Below w.heap.size w w'))
            case atStart => exact ⟨(([] : List (S68))), (a1), (by first | rfl | (simp; done) | (simp [*]; done) | (simp <;> grind)), H', ⟨Nat.le_refl _⟩, ⟨by first | exact Kd.R_nil _ _ _ _ _ | exact Kd.N_nil _ _ _ _ _ | exact Kd.V_nil _ _ _ _ _ | exact Kd.Q_nil _ _ _ _ _ | exact Kd.S_nil _ _ _ _ _⟩, ⟨by repeat (first | (with_reducible first | exact HB.out | apply below_alloc | apply pw_below_drewN | apply below_drew1) | exact HB.out)⟩⟩
            case round =>
              clear H'
              try clear c1
              try clear p2
              try clear c3
              try clear c4
              try clear p6
              try clear c7
              try clear c8
              try clear c8b0
              try clear c9
              try clear c9b0
              try clear c11
              try clear c13
              try clear c14
              try clear c14b0
              try clear c14b1
              try clear c15
              try clear c15b0
              try clear p2
              obtain ⟨x10_2, x11_2, rfl, HA, HK2, HO_10, HB⟩ := hrel
              cases gk with
              | zero => exact absurd HA.out (by simp [marigraphref12_Buckets.l0])
              | succ k2 =>
                have H := HA.out
                clear HA
                simp only [marigraphref12_Buckets.l0] at H
                by_cases c16 : x11_2 < a2
                · rw [if_pos c16] at H
                  have c16b0 : decide (x11_2 < a2) = true := decide_eq_true c16
                  clear c16
                  have HC17 := Aside0.mk H
                  clear H
                  go_upto_if 53 with (fail)
                  go_cut [12] (fun v12 wc => ∃ (kq : Nat) (x12_16 : Int), v12 = .int .i64 x12_16 ∧ Aside0 (marigraphref12_Buckets.j2 kq l0 a2 a3 x10_2 x11_2 x12_16 = some (r1, r2)) ∧ Aside0 (kq ≤ k2) ∧ Aside0 (Kd.R k68 68 wc w.heap.size (fun _ => True) u10 x10_2) ∧ Aside0 (Below w.heap.size w wc))
                  case first =>
                    have H := HC17.out
                    clear HC17
                    by_cases c18 : a3 < (wrap64 (a2 - x11_2))
                    · rw [if_pos c18] at H
                      have c18b0 : decide (a3 < (wrap64 (a2 - x11_2))) = true := decide_eq_true c18
                      clear c18
                      (first | rw [c18b0] | (simp only [i64_w, i32_w]; rw [c18b0]) | skip)
                      have H' := Aside0.mk H
                      clear H
                      go_wp2
                      go_meet
                      case rel => exact ⟨_, (wrap64 (x11_2 + a3)), (by first | rfl | (simp; done) | (simp [*]; done) | (simp <;> grind)), H', ⟨by have := HJ4.out; have := HK2.out; first | omega | exact Nat.le_refl _⟩, ⟨by (with_reducible repeat (first | apply Kd.R_alloc | apply Kd.R_drewN | apply Kd.R_drew)); exact HO_10.out⟩, ⟨by repeat (first | (with_reducible first | exact HB.out | apply below_alloc | apply pw_below_drewN | apply below_drew1) | exact HB.out)⟩⟩
                    · rw [if_neg c18] at H
                      have c18b0 : decide (a3 < (wrap64 (a2 - x11_2))) = false := decide_eq_false c18
                      clear c18
                      (first | rw [c18b0] | (simp only [i64_w, i32_w]; rw [c18b0]) | skip)
                      have H' := Aside0.mk H
                      clear H
                      go_wp2
                      go_meet
                      case rel => exact ⟨_, (a2), (by first | rfl | (simp; done) | (simp [*]; done) | (simp <;> grind)), H', ⟨by have := HJ4.out; have := HK2.out; first | omega | exact Nat.le_refl _⟩, ⟨by (with_reducible repeat (first | apply Kd.R_alloc | apply Kd.R_drewN | apply Kd.R_drew)); exact HO_10.out⟩, ⟨by repeat (first | (with_reducible first | exact HB.out | apply below_alloc | apply pw_below_drewN | apply below_drew1) | exact HB.out)⟩⟩
                  case rest =>
                    clear HC17
                    try clear c1
                    try clear p2
                    try clear c3
                    try clear c4
                    try clear p6
                    try clear c7
                    try clear c8
                    try clear c8b0
                    try clear c9
                    try clear c9b0
                    try clear c11
                    try clear c13
                    try clear c14
                    try clear c14b0
                    try clear c14b1
                    try clear c15
                    try clear c15b0
                    try clear c16
                    try clear c16b0
                    try clear c18
                    try clear c18b0
                    try clear p2
                    try clear p6
                    obtain ⟨kq, x12_16, rfl, HA, HJ16, HO_10, HB⟩ := hcut
                    cases kq with
                    | zero => exact absurd HA.out (by simp [marigraphref12_Buckets.j2])
                    | succ kj16 =>
                      have H := HA.out
                      clear HA
                      simp only [marigraphref12_Buckets.j2] at H
                      replace H := Option.bind_eq_some_iff.mp H
                      obtain ⟨t462, A190, H⟩ := H
                      replace H : (if (t462.length : Int) > 0 then ((marigraphref12_Of.f kj16 t462).bind fun bt465 => (if x10_2.length < 2513169434916 then (marigraphref12_Buckets.l0 kj16 l0 a2 a3 (x10_2 ++ [(⟨x11_2, (⟨bt465.1, bt465.2.1, bt465.2.2.1, bt465.2.2.2.1, bt465.2.2.2.2.1, bt465.2.2.2.2.2⟩ : S50)⟩ : S68)]) x12_16) else (none))) else (marigraphref12_Buckets.l0 kj16 l0 a2 a3 x10_2 x12_16)) = some (r1, r2) := H
                      have A19 := Aside0.mk A190
                      clear A190
                      by_cases c20 : (t462.length : Int) > 0
                      · rw [if_pos c20] at H
                        have c20b0 : decide (0 < (t462.length : Int)) = true := decide_eq_true c20
                        have c20b1 : decide (0 < t462.length) = true := decide_eq_true (by omega)
                        clear c20
                        replace H := Option.bind_eq_some_iff.mp H
                        obtain ⟨⟨t465, t466, t467, t468, t469, t470⟩, A210, H⟩ := H
                        replace H : (if x10_2.length < 2513169434916 then (marigraphref12_Buckets.l0 kj16 l0 a2 a3 (x10_2 ++ [(⟨x11_2, (⟨t465, t466, t467, t468, t469, t470⟩ : S50)⟩ : S68)]) x12_16) else (none)) = some (r1, r2) := H
                        have A21 := Aside0.mk A210
                        clear A210
                        by_cases c22 : x10_2.length < 2513169434916
                        · rw [if_pos c22] at H
                          have LMc22 := Aside0.mk c22
                          clear c22
                          obtain ⟨y471, hy471⟩ : ∃ y_ : List (S68), y_ = (x10_2 ++ [(⟨x11_2, (⟨t465, t466, t467, t468, t469, t470⟩ : S50)⟩ : S68)]) := ⟨_, rfl⟩
                          replace H : (marigraphref12_Buckets.l0 kj16 l0 a2 a3 y471 x12_16) = some (r1, r2) := by first | (rw [hy471]; with_reducible exact H) | (have H2_ := (Option.bind_some _ _).symm.trans H; rw [hy471]; with_reducible exact H2_) | (have H2_ := (Option.bind_some _ _).symm.trans H; with_reducible exact H2_) | with_reducible exact H | (rw [hy471]; exact H) | exact H
                          have Ny471 := Aside0.mk hy471
                          clear hy471
                          have H' := Aside0.mk H
                          clear H
                          go_wp2_with (first | ((with_reducible refine gate_callee (f := 53) rfl ?_); refine goesL_ (some 60) rfl rfl Try.func53 (by kernel_rfl) rfl #[.slice A0 l0.length c0, .int .i64 x11_2, .int .i64 x12_16] rfl (by (try simp only [List.map_toArray, List.map_cons, List.map_nil]); first | done | rfl | (simp only [List.length_drop, List.length_take]; rfl)) ?_; (with_reducible refine (marigraphref12_Within.calls kj16 _ _ l0 x11_2 x12_16 t462 _ ?side1 ?side2 A19.out).mono ?_); (case side1 => repeat (first | exact (Kd.C_below HR0.out HB.out) | (with_reducible refine Kd.C_alloc ?_ _) | (with_reducible refine Kd.C_drewN ?_ _) | (with_reducible refine Kd.C_drew ?_))); (case side2 => exact HC0.out); rintro e w23 ⟨v463, rfl, ho0, hb⟩; refine ⟨_, rfl, ?_⟩; have n0_ := Aside0.mk (Kd.R_below (by (with_reducible repeat (first | apply Kd.R_alloc | apply Kd.R_drewN | apply Kd.R_drew)); exact HO_10.out) hb); have n1_ := Aside0.mk (Kd.R_lower ho0 (below_size (by repeat (first | (with_reducible first | exact HB.out | apply below_alloc | apply pw_below_drewN | apply below_drew1) | exact HB.out)))); have n2_ := Aside0.mk (below_step (by repeat (first | (with_reducible first | exact HB.out | apply below_alloc | apply pw_below_drewN | apply below_drew1) | exact HB.out)) hb); clear HO_10; clear HB; have HO_10 := n0_; have HO464 := n1_; have HB := n2_; clear n0_ n1_ n2_; (try clear hb); (try clear hb2); (try clear hk); (try clear hi); (try clear ho0); obtain ⟨Ao24, co24, eo24⟩ := Kd.R_slice HO464.out; subst eo24) | ((with_reducible refine gate_callee (f := 31) rfl ?_); refine goesL_ (some 67) rfl rfl Try.func31 (by kernel_rfl) rfl #[.slice Ao24 t462.length co24] rfl (by (try simp only [List.map_toArray, List.map_cons, List.map_nil]); first | done | rfl | (simp only [List.length_drop, List.length_take]; rfl)) ?_; (with_reducible refine (marigraphref12_Of.calls kj16 _ _ t462 t465 t466 t467 t468 t469 t470 _ ?side1 ?side2 A21.out).mono ?_); (case side1 => repeat (first | exact (Kd.R_reads' HO464.out).2.2 | (with_reducible refine Kd.C_alloc ?_ _) | (with_reducible refine Kd.C_drewN ?_ _) | (with_reducible refine Kd.C_drew ?_))); (case side2 => exact (Kd.R_reads' HO464.out).2.1); rintro e w25 ⟨rfl, hb⟩; refine ⟨_, rfl, ?_⟩; have n0_ := Aside0.mk (Kd.R_below (by (with_reducible repeat (first | apply Kd.R_alloc | apply Kd.R_drewN | apply Kd.R_drew)); exact HO_10.out) hb); have n1_ := Aside0.mk (Kd.R_below (by (with_reducible repeat (first | apply Kd.R_alloc | apply Kd.R_drewN | apply Kd.R_drew)); exact HO464.out) hb); have n2_ := Aside0.mk (below_step (by repeat (first | (with_reducible first | exact HB.out | apply below_alloc | apply pw_below_drewN | apply below_drew1) | exact HB.out)) hb); clear HO_10; clear HO464; clear HB; have HO_10 := n0_; have HO464 := n1_; have HB := n2_; clear n0_ n1_ n2_; (try clear hb); (try clear hb2); (try clear hk); (try clear hi)) | ((with_reducible refine gate_builtin (b := .append) (xs := #[.tmp 64, .tmp 69]) rfl ?_); at_builtin; refine Kd.R_append k68 (w0 := w) w.heap.size rfl (.tmp 64) (.tmp 69) 62 68 (.agg #[(.int .i64 0), (.int .i64 0), (.int .i64 0), (.int .i64 0), (.int .i64 0), (.int .i64 0), (.int .i64 0)]) 56 rfl Try.underlying62 info68 rfl (by decide) (by omega) u10 x10_2 (⟨x11_2, (⟨t465, t466, t467, t468, t469, t470⟩ : S50)⟩ : S68) [.int .i64 x11_2, .int .i64 t465, .int .i64 t466, .int .i64 t467, .int .i64 t468, .int .i64 t469, .int .i64 t470] (fun _ => True) (fun _ => False) rfl rfl ?aP (fun _ hk => hk.elim) ?aF ?aO ?aB ?aS ?aL ?_; (case aP => exact k68_mkM _ _ _ (⟨x11_2, (⟨t465, t466, t467, t468, t469, t470⟩ : S50)⟩ : S68)); (case aB => exact (by repeat (first | (with_reducible first | exact HB.out | apply below_alloc | apply pw_below_drewN | apply below_drew1) | exact HB.out))); (case aF => exact (fun _ _ => trivial)); (case aO => exact (by (with_reducible repeat (first | apply Kd.R_alloc | apply Kd.R_drewN | apply Kd.R_drew)); exact HO_10.out)); (case aS => exact (below_size (by repeat (first | (with_reducible first | exact HB.out | apply below_alloc | apply pw_below_drewN | apply below_drew1) | exact HB.out)))); (case aL => have := LMc22.out; omega); intro v472 w26 ho hb hg hat; rw [← Ny471.out] at ho; have n0_ := Aside0.mk (Kd.R_over' (by (with_reducible repeat (first | apply Kd.R_alloc | apply Kd.R_drewN | apply Kd.R_drew)); exact HO464.out) (Kd.R_typed (by (with_reducible repeat (first | apply Kd.R_alloc | apply Kd.R_drewN | apply Kd.R_drew)); exact HO_10.out)) (by decide) hg); have n1_ := Aside0.mk (hb); have n2_ := Aside0.mk (ho); clear HO464; clear HB; clear HO_10; have HO464 := n0_; have HB := n1_; have HO473 := n2_; clear n0_ n1_ n2_; clear ho hb hg hat))
                          go_roundg kj16
                          case measure => have := HJ4.out; have := HK2.out; have := HJ16.out; omega
                          case rel => exact ⟨(y471), (x12_16), (by first | rfl | (simp; done) | (simp [*]; done) | (simp <;> grind)), H', ⟨by have := HJ4.out; have := HK2.out; have := HJ16.out; omega⟩, ⟨by (with_reducible repeat (first | apply Kd.R_alloc | apply Kd.R_drewN | apply Kd.R_drew)); exact HO473.out⟩, ⟨by repeat (first | (with_reducible first | exact HB.out | apply below_alloc | apply pw_below_drewN | apply below_drew1) | exact HB.out)⟩⟩
                        · rw [if_neg c22] at H
                          exact absurd H (by simp)
                      · rw [if_neg c20] at H
                        have c20b0 : decide (0 < (t462.length : Int)) = false := decide_eq_false c20
                        have c20b1 : decide (0 < t462.length) = false := decide_eq_false (by omega)
                        clear c20
                        have H' := Aside0.mk H
                        clear H
                        go_wp2_with (first | ((with_reducible refine gate_callee (f := 53) rfl ?_); refine goesL_ (some 60) rfl rfl Try.func53 (by kernel_rfl) rfl #[.slice A0 l0.length c0, .int .i64 x11_2, .int .i64 x12_16] rfl (by (try simp only [List.map_toArray, List.map_cons, List.map_nil]); first | done | rfl | (simp only [List.length_drop, List.length_take]; rfl)) ?_; (with_reducible refine (marigraphref12_Within.calls kj16 _ _ l0 x11_2 x12_16 t462 _ ?side1 ?side2 A19.out).mono ?_); (case side1 => repeat (first | exact (Kd.C_below HR0.out HB.out) | (with_reducible refine Kd.C_alloc ?_ _) | (with_reducible refine Kd.C_drewN ?_ _) | (with_reducible refine Kd.C_drew ?_))); (case side2 => exact HC0.out); rintro e w27 ⟨v463, rfl, ho0, hb⟩; refine ⟨_, rfl, ?_⟩; have n0_ := Aside0.mk (Kd.R_below (by (with_reducible repeat (first | apply Kd.R_alloc | apply Kd.R_drewN | apply Kd.R_drew)); exact HO_10.out) hb); have n1_ := Aside0.mk (Kd.R_lower ho0 (below_size (by repeat (first | (with_reducible first | exact HB.out | apply below_alloc | apply pw_below_drewN | apply below_drew1) | exact HB.out)))); have n2_ := Aside0.mk (below_step (by repeat (first | (with_reducible first | exact HB.out | apply below_alloc | apply pw_below_drewN | apply below_drew1) | exact HB.out)) hb); clear HO_10; clear HB; have HO_10 := n0_; have HO464 := n1_; have HB := n2_; clear n0_ n1_ n2_; (try clear hb); (try clear hb2); (try clear hk); (try clear hi); (try clear ho0); obtain ⟨Ao28, co28, eo28⟩ := Kd.R_slice HO464.out; subst eo28))
                        go_roundg kj16
                        case measure => have := HJ4.out; have := HK2.out; have := HJ16.out; omega
                        case rel => exact ⟨(x10_2), (x12_16), (by first | rfl | (simp; done) | (simp [*]; done) | (simp <;> grind)), H', ⟨by have := HJ4.out; have := HK2.out; have := HJ16.out; omega⟩, ⟨by (with_reducible repeat (first | apply Kd.R_alloc | apply Kd.R_drewN | apply Kd.R_drew)); exact HO_10.out⟩, ⟨by repeat (first | (with_reducible first | exact HB.out | apply below_alloc | apply pw_below_drewN | apply below_drew1) | exact HB.out)⟩⟩
                · rw [if_neg c16] at H
                  have c16b0 : decide (x11_2 < a2) = false := decide_eq_false c16
                  clear c16
                  simp only [Option.some.injEq, Prod.mk.injEq] at H
                  obtain ⟨rfl, rfl⟩ := H
                  go_wp2
                  go_ret2
                  exact ⟨_, by first | rfl | (simp [errW_none, errW_some] <;> rfl) | (simp [*, errW_none, errW_some] <;> rfl), by (with_reducible repeat (first | apply Kd.R_alloc | apply Kd.R_drewN | apply Kd.R_drew)); exact HO_10.out, by repeat (first | (with_reducible first | exact HB.out | apply below_alloc | apply pw_below_drewN | apply below_drew1) | exact HB.out)⟩

end Go.Proofs.Ytjkpdjadbeidnaa.X
