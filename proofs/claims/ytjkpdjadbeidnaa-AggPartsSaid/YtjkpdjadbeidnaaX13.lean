-- By xprint.py, out of the translation's own print. Lean checks it.
import Derived.Test.YtjkpdjadbeidnaaX0
import Derived.Test.YtjkpdjadbeidnaaX4
import Derived.Test.YtjkpdjadbeidnaaX5
import Derived.Test.YtjkpdjadbeidnaaX7
namespace Go.Proofs.Ytjkpdjadbeidnaa.X
open Go.RowKit Go.Proofs.YtjkpdjadbeidnaaW.PrintWords Go.Proofs.YtjkpdjadbeidnaaW.PrintLast Go.Proofs.YtjkpdjadbeidnaaW.PrintMore
attribute [local go_sem] max2_int min2_int max_two min_two max_three min_three max_four min_four   -- for this text's walks alone
set_option linter.unusedVariables false
set_option linter.unusedSimpArgs false

attribute [local go_sem high] idxA80
/-! ### agg_Rollup: function 34 -/
mutual
def agg_Rollup.j0 : Nat → List (S33) → Int → Int → Bool → Option ((List (S33)) × Int)
  | 0, _, _, _, _ => none
  | k + 1, x0, x1, x2, x32 => if x32 = true then (some (([] : List (S33)), 1)) else (agg_Rollup.l0 k x0 x1 x2 ([] : List (S33)) x0 (x0.length : Int) 0 0 0 0 0 0 0)
def agg_Rollup.l0 : Nat → List (S33) → Int → Int → List (S33) → List (S33) → Int → Int → Int → Int → Int → Int → Int → Int → Option ((List (S33)) × Int)
  | 0, _, _, _, _, _, _, _, _, _, _, _, _, _ => none
  | k + 1, x0, x1, x2, x8, x33, x34, x35, x134000, x134001, x134002, x134003, x134004, x134005 => if x35 < x34 then (if 0 ≤ x35 then (if x35 < (x33.length : Int) then ((agg_one.f ((rd_T33 x33 x35).f0) ((rd_T33 x33 x35).f1)).bind fun bt136 => ((agg_Join.f x134000 x134001 x134002 x134003 x134004 x134005 bt136.1 bt136.2.1 bt136.2.2.1 bt136.2.2.2.1 bt136.2.2.2.2.1 bt136.2.2.2.2.2).bind fun bt142 => (if x1 = 0 then (none) else (if (wrap64 (x35 + 1)) < (x0.length : Int) then (if 0 ≤ (wrap64 (x35 + 1)) then (if (wrap64 (((rd_T33 x0 (wrap64 (x35 + 1))).f0) - (wrap64 (((rd_T33 x33 x35).f0) - (Int.tmod (wrap64 ((Int.tmod ((rd_T33 x33 x35).f0) x1) + x1)) x1))))) < x1 then (agg_Rollup.l0 k x0 x1 x2 x8 x33 x34 (wrap64 (x35 + 1)) bt142.1 bt142.2.1 bt142.2.2.1 bt142.2.2.2.1 bt142.2.2.2.2.1 bt142.2.2.2.2.2) else ((agg_told_fields.f bt142.1 bt142.2.1 bt142.2.2.1 bt142.2.2.2.1 bt142.2.2.2.2.1 bt142.2.2.2.2.2).bind fun bt149 => (if 0 ≤ x2 then (if x2 < 6 then (if x8.length < 8796093022208 then (agg_Rollup.l0 k x0 x1 x2 (x8 ++ [(⟨wrap64 (((rd_T33 x33 x35).f0) - (Int.tmod (wrap64 ((Int.tmod ((rd_T33 x33 x35).f0) x1) + x1)) x1)), rd [bt149.1, bt149.2.1, bt149.2.2.1, bt149.2.2.2.1, bt149.2.2.2.2.1, bt149.2.2.2.2.2] x2⟩ : S33)]) x33 x34 (wrap64 (x35 + 1)) 0 0 0 0 0 0) else (none)) else (none)) else (none)))) else (none)) else ((agg_told_fields.f bt142.1 bt142.2.1 bt142.2.2.1 bt142.2.2.2.1 bt142.2.2.2.2.1 bt142.2.2.2.2.2).bind fun bt158 => (if 0 ≤ x2 then (if x2 < 6 then (if x8.length < 8796093022208 then (agg_Rollup.l0 k x0 x1 x2 (x8 ++ [(⟨wrap64 (((rd_T33 x33 x35).f0) - (Int.tmod (wrap64 ((Int.tmod ((rd_T33 x33 x35).f0) x1) + x1)) x1)), rd [bt158.1, bt158.2.1, bt158.2.2.1, bt158.2.2.2.1, bt158.2.2.2.2.1, bt158.2.2.2.2.2] x2⟩ : S33)]) x33 x34 (wrap64 (x35 + 1)) 0 0 0 0 0 0) else (none)) else (none)) else (none))))))) else (none)) else (none)) else (some (x8, 0))
end
def agg_Rollup.f (k : Nat) (l0 : List (S33)) (a1 : Int) (a2 : Int) : Option ((List (S33)) × Int) := (steps_Right.f k l0).bind fun t131 => (if t131 = true then (if a1 < 1 then (agg_Rollup.j0 k l0 a1 a2 true) else (if a1 > 1099511627776 then (agg_Rollup.j0 k l0 a1 a2 true) else (if a2 > 5 then (agg_Rollup.j0 k l0 a1 a2 true) else ((api_Point_46.f k l0).bind fun t132 => (agg_Rollup.j0 k l0 a1 a2 t132))))) else (agg_Rollup.j0 k l0 a1 a2 true))
theorem agg_Rollup.mono_l : ∀ k, (∀ y0 y1 y2 y3, LeO (agg_Rollup.j0 k y0 y1 y2 y3) (agg_Rollup.j0 (k + 1) y0 y1 y2 y3)) ∧ (∀ y0 y1 y2 y3 y4 y5 y6 y7 y8 y9 y10 y11 y12, LeO (agg_Rollup.l0 k y0 y1 y2 y3 y4 y5 y6 y7 y8 y9 y10 y11 y12) (agg_Rollup.l0 (k + 1) y0 y1 y2 y3 y4 y5 y6 y7 y8 y9 y10 y11 y12))
  | 0 => ⟨fun _ _ _ _ r h => by simp [agg_Rollup.j0] at h, fun _ _ _ _ _ _ _ _ _ _ _ _ _ r h => by simp [agg_Rollup.l0] at h⟩
  | k + 1 => by
    obtain ⟨ih0, ih1⟩ := agg_Rollup.mono_l k
    refine ⟨?_, ?_⟩
    · intro y0 y1 y2 y3
      unfold agg_Rollup.j0
      repeat' first
      | (with_reducible exact ih0 _ _ _ _)
      | (with_reducible exact ih1 _ _ _ _ _ _ _ _ _ _ _ _ _)
      | (with_reducible exact api_Point_46.mono _ _)
      | (with_reducible exact steps_Right.mono _ _)
      | (with_reducible exact LeO.refl _)
      | (with_reducible exact LeO.none _)
      | (with_reducible refine LeO.ite ?_ ?_)
      | (with_reducible refine LeO.bind ?_ (fun _ => ?_))
      | exact ih0 _ _ _ _
      | exact ih1 _ _ _ _ _ _ _ _ _ _ _ _ _
      | exact api_Point_46.mono _ _
      | exact steps_Right.mono _ _
      | exact LeO.none _
      | refine LeO.ite ?_ ?_
      | refine LeO.bind ?_ (fun _ => ?_)
    · intro y0 y1 y2 y3 y4 y5 y6 y7 y8 y9 y10 y11 y12
      unfold agg_Rollup.l0
      repeat' first
      | (with_reducible exact ih0 _ _ _ _)
      | (with_reducible exact ih1 _ _ _ _ _ _ _ _ _ _ _ _ _)
      | (with_reducible exact api_Point_46.mono _ _)
      | (with_reducible exact steps_Right.mono _ _)
      | (with_reducible exact LeO.refl _)
      | (with_reducible exact LeO.none _)
      | (with_reducible refine LeO.ite ?_ ?_)
      | (with_reducible refine LeO.bind ?_ (fun _ => ?_))
      | exact ih0 _ _ _ _
      | exact ih1 _ _ _ _ _ _ _ _ _ _ _ _ _
      | exact api_Point_46.mono _ _
      | exact steps_Right.mono _ _
      | exact LeO.none _
      | refine LeO.ite ?_ ?_
      | refine LeO.bind ?_ (fun _ => ?_)
theorem agg_Rollup.mono : ∀ a0 a1 a2 k, LeO (agg_Rollup.f k a0 a1 a2) (agg_Rollup.f (k + 1) a0 a1 a2) := by
  intro a0 a1 a2 k
  obtain ⟨ih0, ih1⟩ := agg_Rollup.mono_l k
  unfold agg_Rollup.f
  repeat' first
      | (with_reducible exact ih0 _ _ _ _)
      | (with_reducible exact ih1 _ _ _ _ _ _ _ _ _ _ _ _ _)
      | (with_reducible exact api_Point_46.mono _ _)
      | (with_reducible exact steps_Right.mono _ _)
      | (with_reducible exact LeO.refl _)
      | (with_reducible exact LeO.none _)
      | (with_reducible refine LeO.ite ?_ ?_)
      | (with_reducible refine LeO.bind ?_ (fun _ => ?_))
      | exact ih0 _ _ _ _
      | exact ih1 _ _ _ _ _ _ _ _ _ _ _ _ _
      | exact api_Point_46.mono _ _
      | exact steps_Right.mono _ _
      | exact LeO.none _
      | refine LeO.ite ?_ ?_
      | refine LeO.bind ?_ (fun _ => ?_)
def agg_Rollup.T9 : Bool × List (List Nat × List Nat) := (true, [([], []), ([0], [0]), ([], []), ([2], [2]), ([], []), ([3, 4], [3, 4]), ([], []), ([5, 6], [5, 6]), ([], []), ([7, 8], [7, 8]), ([1, 9], [1, 9]), ([10, 0, 1, 2, 3, 4, 5, 6, 7, 8, 9, 10], [10])])
def agg_Rollup.B9 : List Nat := [0, 1, 0, 4, 0, 28, 0, 124, 0, 508, 1023, 2047]
theorem agg_Rollup.tab9 : rtab .any (opsOf Try.f34 9) = agg_Rollup.T9 := by kernel_rfl
theorem agg_Rollup.bits9 : waitsOk agg_Rollup.T9.2 agg_Rollup.B9 = true := by kernel_rfl
set_option maxHeartbeats 8000000 in
set_option maxRecDepth 100000 in
theorem agg_Rollup.calls (k : Nat) (A0 : Option Addr) (c0 : Nat) (l0 : List (S33)) (a1 : Int) (a2 : Int) (r1 : List (S33)) (r2 : Int) (w : World) (hr0 : Kd.C k33 w A0 l0.length l0) (hc0 : l0.length ≤ c0) (h : agg_Rollup.f k l0 a1 a2 = some (r1, r2)) :
    Calls Try.prog 34 #[.slice A0 l0.length c0, .int .i64 a1, .int .u8 a2] w fun e w' => ∃ v0_ : Value, e = .returned (.tuple #[v0_, .int .i64 r2]) ∧ Kd.R k33 33 w' w.heap.size (fun _ => True) v0_ r1 ∧ Below w.heap.size w w' := by
  have hu50 := Try.underlying50
  have hu33 := Try.underlying33
  have HR0 := Aside0.mk hr0
  have HC0 := Aside0.mk hc0
  clear hr0 hc0
  have HB := Aside0.mk (Below.refl w.heap.size w)
  have H : ((steps_Right.f k l0).bind fun t131 => (if t131 = true then (if a1 < 1 then (agg_Rollup.j0 k l0 a1 a2 true) else (if a1 > 1099511627776 then (agg_Rollup.j0 k l0 a1 a2 true) else (if a2 > 5 then (agg_Rollup.j0 k l0 a1 a2 true) else ((api_Point_46.f k l0).bind fun t132 => (agg_Rollup.j0 k l0 a1 a2 t132))))) else (agg_Rollup.j0 k l0 a1 a2 true))) = some (r1, r2) := h
  clear h
  have HC4 := Aside0.mk H
  clear H
  go_enter Try.func34, Try.ntmps34
  go_upto_region 1 with (fail)
  go_cut [32] (fun v32 wc => ∃ (kq : Nat) (x32_3 : Bool), v32 = .bool x32_3 ∧ Aside0 (agg_Rollup.j0 kq l0 a1 a2 x32_3 = some (r1, r2)) ∧ Aside0 (kq ≤ k) ∧ Aside0 (Below w.heap.size w wc))
  case first =>
    have H := HC4.out
    clear HC4
    replace H := Option.bind_eq_some_iff.mp H
    obtain ⟨t131, A50, H⟩ := H
    replace H : (if t131 = true then (if a1 < 1 then (agg_Rollup.j0 k l0 a1 a2 true) else (if a1 > 1099511627776 then (agg_Rollup.j0 k l0 a1 a2 true) else (if a2 > 5 then (agg_Rollup.j0 k l0 a1 a2 true) else ((api_Point_46.f k l0).bind fun t132 => (agg_Rollup.j0 k l0 a1 a2 t132))))) else (agg_Rollup.j0 k l0 a1 a2 true)) = some (r1, r2) := H
    have A5 := Aside0.mk A50
    clear A50
    by_cases c6 : t131 = true
    · subst c6
      have H1 : (if a1 < 1 then (agg_Rollup.j0 k l0 a1 a2 true) else (if a1 > 1099511627776 then (agg_Rollup.j0 k l0 a1 a2 true) else (if a2 > 5 then (agg_Rollup.j0 k l0 a1 a2 true) else ((api_Point_46.f k l0).bind fun t132 => (agg_Rollup.j0 k l0 a1 a2 t132))))) = some (r1, r2) := by rw [if_pos rfl] at H; exact H
      clear H
      have H := H1
      clear H1
      by_cases c7 : a1 < 1
      · rw [if_pos c7] at H
        have c7b0 : decide (a1 < 1) = true := decide_eq_true c7
        clear c7
        (first | rw [c7b0] | (simp only [i64_w, i32_w]; rw [c7b0]) | skip)
        have H' := Aside0.mk H
        clear H
        go_wp2_with (first | ((with_reducible refine gate_callee (f := 45) rfl ?_); refine goesL_ (some 15) rfl rfl Try.func45 (by kernel_rfl) rfl #[.slice A0 l0.length c0] rfl (by (try simp only [List.map_toArray, List.map_cons, List.map_nil]); first | done | rfl | (simp only [List.length_drop, List.length_take]; rfl)) ?_; (with_reducible refine (steps_Right.calls k _ _ l0 true _ ?side1 ?side2 A5.out).mono ?_); (case side1 => repeat (first | exact (Kd.C_below HR0.out HB.out) | (with_reducible refine Kd.C_alloc ?_ _) | (with_reducible refine Kd.C_drewN ?_ _) | (with_reducible refine Kd.C_drew ?_))); (case side2 => exact HC0.out); rintro e w' ⟨rfl, ⟨nd, rfl⟩⟩; refine ⟨_, rfl, ?_⟩))
        go_meet
        case rel => exact ⟨_, (true), (by first | rfl | (simp; done) | (simp [*]; done) | (simp <;> grind)), H', ⟨by first | omega | exact Nat.le_refl _⟩, ⟨by repeat (first | (with_reducible first | exact HB.out | apply below_alloc | apply pw_below_drewN | apply below_drew1) | exact HB.out)⟩⟩
      · rw [if_neg c7] at H
        have c7b0 : decide (a1 < 1) = false := decide_eq_false c7
        clear c7
        (first | rw [c7b0] | (simp only [i64_w, i32_w]; rw [c7b0]) | skip)
        by_cases c8 : a1 > 1099511627776
        · rw [if_pos c8] at H
          have c8b0 : decide (1099511627776 < a1) = true := decide_eq_true c8
          clear c8
          have H' := Aside0.mk H
          clear H
          go_wp2_with (first | ((with_reducible refine gate_callee (f := 45) rfl ?_); refine goesL_ (some 15) rfl rfl Try.func45 (by kernel_rfl) rfl #[.slice A0 l0.length c0] rfl (by (try simp only [List.map_toArray, List.map_cons, List.map_nil]); first | done | rfl | (simp only [List.length_drop, List.length_take]; rfl)) ?_; (with_reducible refine (steps_Right.calls k _ _ l0 true _ ?side1 ?side2 A5.out).mono ?_); (case side1 => repeat (first | exact (Kd.C_below HR0.out HB.out) | (with_reducible refine Kd.C_alloc ?_ _) | (with_reducible refine Kd.C_drewN ?_ _) | (with_reducible refine Kd.C_drew ?_))); (case side2 => exact HC0.out); rintro e w' ⟨rfl, ⟨nd, rfl⟩⟩; refine ⟨_, rfl, ?_⟩))
          go_meet
          case rel => exact ⟨_, (true), (by first | rfl | (simp; done) | (simp [*]; done) | (simp <;> grind)), H', ⟨by first | omega | exact Nat.le_refl _⟩, ⟨by repeat (first | (with_reducible first | exact HB.out | apply below_alloc | apply pw_below_drewN | apply below_drew1) | exact HB.out)⟩⟩
        · rw [if_neg c8] at H
          have c8b0 : decide (1099511627776 < a1) = false := decide_eq_false c8
          clear c8
          by_cases c9 : a2 > 5
          · rw [if_pos c9] at H
            have c9b0 : decide (5 < a2) = true := decide_eq_true c9
            clear c9
            have H' := Aside0.mk H
            clear H
            go_wp2_with (first | ((with_reducible refine gate_callee (f := 45) rfl ?_); refine goesL_ (some 15) rfl rfl Try.func45 (by kernel_rfl) rfl #[.slice A0 l0.length c0] rfl (by (try simp only [List.map_toArray, List.map_cons, List.map_nil]); first | done | rfl | (simp only [List.length_drop, List.length_take]; rfl)) ?_; (with_reducible refine (steps_Right.calls k _ _ l0 true _ ?side1 ?side2 A5.out).mono ?_); (case side1 => repeat (first | exact (Kd.C_below HR0.out HB.out) | (with_reducible refine Kd.C_alloc ?_ _) | (with_reducible refine Kd.C_drewN ?_ _) | (with_reducible refine Kd.C_drew ?_))); (case side2 => exact HC0.out); rintro e w' ⟨rfl, ⟨nd, rfl⟩⟩; refine ⟨_, rfl, ?_⟩))
            go_meet
            case rel => exact ⟨_, (true), (by first | rfl | (simp; done) | (simp [*]; done) | (simp <;> grind)), H', ⟨by first | omega | exact Nat.le_refl _⟩, ⟨by repeat (first | (with_reducible first | exact HB.out | apply below_alloc | apply pw_below_drewN | apply below_drew1) | exact HB.out)⟩⟩
          · rw [if_neg c9] at H
            have c9b0 : decide (5 < a2) = false := decide_eq_false c9
            clear c9
            replace H := Option.bind_eq_some_iff.mp H
            obtain ⟨t132, A100, H⟩ := H
            replace H : (agg_Rollup.j0 k l0 a1 a2 t132) = some (r1, r2) := H
            have A10 := Aside0.mk A100
            clear A100
            have H' := Aside0.mk H
            clear H
            go_wp2_with (first | ((with_reducible refine gate_callee (f := 45) rfl ?_); refine goesL_ (some 15) rfl rfl Try.func45 (by kernel_rfl) rfl #[.slice A0 l0.length c0] rfl (by (try simp only [List.map_toArray, List.map_cons, List.map_nil]); first | done | rfl | (simp only [List.length_drop, List.length_take]; rfl)) ?_; (with_reducible refine (steps_Right.calls k _ _ l0 true _ ?side1 ?side2 A5.out).mono ?_); (case side1 => repeat (first | exact (Kd.C_below HR0.out HB.out) | (with_reducible refine Kd.C_alloc ?_ _) | (with_reducible refine Kd.C_drewN ?_ _) | (with_reducible refine Kd.C_drew ?_))); (case side2 => exact HC0.out); rintro e w' ⟨rfl, ⟨nd, rfl⟩⟩; refine ⟨_, rfl, ?_⟩) | (go_at_call 46; (with_reducible refine (api_Point_46.calls k _ _ l0  t132 _ ?side1 ?side2 A10.out).mono ?_); (case side1 => repeat (first | exact (Kd.C_below HR0.out (by repeat (first | (with_reducible first | exact HB.out | apply below_alloc | apply pw_below_drewN | apply below_drew1) | exact HB.out))) | (with_reducible refine Kd.C_alloc ?_ _) | (with_reducible refine Kd.C_drewN ?_ _) | (with_reducible refine Kd.C_drew ?_))); (case side2 => exact HC0.out); rintro e w11 ⟨rfl, hb⟩; have n0_ := Aside0.mk (below_step (by repeat (first | (with_reducible first | exact HB.out | apply below_alloc | apply pw_below_drewN | apply below_drew1) | exact HB.out)) hb); clear HB; have HB := n0_; clear n0_; (try clear hb); (try clear hb2); (try clear hk); (try clear hi)))
            go_meet
            case rel => exact ⟨_, (t132), (by first | rfl | (simp; done) | (simp [*]; done) | (simp <;> grind)), H', ⟨by first | omega | exact Nat.le_refl _⟩, ⟨by repeat (first | (with_reducible first | exact HB.out | apply below_alloc | apply pw_below_drewN | apply below_drew1) | exact HB.out)⟩⟩
    · replace c6 := Bool.eq_false_iff.mpr c6
      subst c6
      have H1 : (agg_Rollup.j0 k l0 a1 a2 true) = some (r1, r2) := by rw [if_neg (show ¬ (false = true) by decide)] at H; exact H
      clear H
      have H := H1
      clear H1
      have H' := Aside0.mk H
      clear H
      go_wp2_with (first | ((with_reducible refine gate_callee (f := 45) rfl ?_); refine goesL_ (some 15) rfl rfl Try.func45 (by kernel_rfl) rfl #[.slice A0 l0.length c0] rfl (by (try simp only [List.map_toArray, List.map_cons, List.map_nil]); first | done | rfl | (simp only [List.length_drop, List.length_take]; rfl)) ?_; (with_reducible refine (steps_Right.calls k _ _ l0 false _ ?side1 ?side2 A5.out).mono ?_); (case side1 => repeat (first | exact (Kd.C_below HR0.out HB.out) | (with_reducible refine Kd.C_alloc ?_ _) | (with_reducible refine Kd.C_drewN ?_ _) | (with_reducible refine Kd.C_drew ?_))); (case side2 => exact HC0.out); rintro e w' ⟨rfl, ⟨nd, rfl⟩⟩; refine ⟨_, rfl, ?_⟩))
      go_meet
      case rel => exact ⟨_, (true), (by first | rfl | (simp; done) | (simp [*]; done) | (simp <;> grind)), H', ⟨by first | omega | exact Nat.le_refl _⟩, ⟨by repeat (first | (with_reducible first | exact HB.out | apply below_alloc | apply pw_below_drewN | apply below_drew1) | exact HB.out)⟩⟩
  case rest =>
    clear HC4
    try clear p2
    try clear c3
    try clear c4
    try clear c6
    try clear c7
    try clear c7b0
    try clear c8
    try clear c8b0
    try clear c9
    try clear c9b0
    obtain ⟨kq, x32_3, rfl, HA, HJ3, HB⟩ := hcut
    cases kq with
    | zero => exact absurd HA.out (by simp [agg_Rollup.j0])
    | succ kj3 =>
      have H := HA.out
      clear HA
      simp only [agg_Rollup.j0] at H
      by_cases c12 : x32_3 = true
      · subst c12
        have H1 : (some (([] : List (S33)), 1)) = some (r1, r2) := by rw [if_pos rfl] at H; exact H
        clear H
        have H := H1
        clear H1
        simp only [Option.some.injEq, Prod.mk.injEq] at H
        obtain ⟨rfl, rfl⟩ := H
        go_wp2
        go_ret2
        exact ⟨_, by first | rfl | (simp [errW_none, errW_some] <;> rfl) | (simp [*, errW_none, errW_some] <;> rfl), by first | exact Kd.R_nil _ _ _ _ _ | exact Kd.N_nil _ _ _ _ _ | exact Kd.V_nil _ _ _ _ _ | exact Kd.Q_nil _ _ _ _ _ | exact Kd.S_nil _ _ _ _ _, by repeat (first | (with_reducible first | exact HB.out | apply below_alloc | apply pw_below_drewN | apply below_drew1) | exact HB.out)⟩
      · replace c12 := Bool.eq_false_iff.mpr c12
        subst c12
        have H1 : (agg_Rollup.l0 kj3 l0 a1 a2 ([] : List (S33)) l0 (l0.length : Int) 0 0 0 0 0 0 0) = some (r1, r2) := by rw [if_neg (show ¬ (false = true) by decide)] at H; exact H
        clear H
        have H := H1
        clear H1
        have H' := Aside0.mk H
        clear H
        go_wp2_with (first | ((with_reducible refine gate_dst (N := 9) rfl ?_); refine box_event ?hg (N := 9) ?hd (cs := #[.int .i64 0, .int .i64 0, .int .i64 0, .int .i64 0, .int .i64 0, .int .i64 0]) (t := 50) ?hr ?_; (case hd => rfl); (case hg => rfl); (case hr => first | (go_simp; done) | (go_simp; rfl)); intro gb133 hg w13 hbox hb; have n0_ := Aside0.mk (below_step (by repeat (first | (with_reducible first | exact HB.out | apply below_alloc | apply pw_below_drewN | apply below_drew1) | exact HB.out)) hb); have n1_ := Aside0.mk (hbox); have n2_ := Aside0.mk ((by rw [hg]; exact (below_size (by repeat (first | (with_reducible first | exact HB.out | apply below_alloc | apply pw_below_drewN | apply below_drew1) | exact HB.out))) : w.heap.size ≤ gb133)); have n3_ := Aside0.mk ((by rw [hg]; exact (below_size (by repeat (first | (with_reducible first | exact HB.out | apply below_alloc | apply pw_below_drewN | apply below_drew1) | exact HB.out))) : w.heap.size ≤ gb133)); clear HB; have HB := n0_; have BK133 := n1_; have GW133 := n2_; have GE133 := n3_; clear n0_ n1_ n2_ n3_; clear hb hbox hg))
        go_loopg [8, 35] kj3 (fun kq v8 v35 w' => ∃ (x8_2 : List (S33)) (x35_2 : Int) (x134000_2 : Int) (x134001_2 : Int) (x134002_2 : Int) (x134003_2 : Int) (x134004_2 : Int) (x134005_2 : Int), v35 = .int .i64 x35_2 ∧ Aside0 (agg_Rollup.l0 kq l0 a1 a2 x8_2 l0 (l0.length : Int) x35_2 x134000_2 x134001_2 x134002_2 x134003_2 x134004_2 x134005_2 = some (r1, r2)) ∧ Aside0 (kq ≤ kj3) ∧ Aside0 (Kd.R k33 33 w' w.heap.size (fun _ => True) v8 x8_2) ∧ Aside0 (w'.heap[gb133]? = some (.cells #[.int .i64 x134000_2, .int .i64 x134001_2, .int .i64 x134002_2, .int .i64 x134003_2, .int .i64 x134004_2, .int .i64 x134005_2] 50 (0, 0))) ∧ Aside0 (Below w.heap.size w w'))
        case atStart => exact ⟨(([] : List (S33))), (0), (0), (0), (0), (0), (0), (0), (by first | rfl | (simp; done) | (simp [*]; done) | (simp <;> grind)), H', ⟨Nat.le_refl _⟩, ⟨by first | exact Kd.R_nil _ _ _ _ _ | exact Kd.N_nil _ _ _ _ _ | exact Kd.V_nil _ _ _ _ _ | exact Kd.Q_nil _ _ _ _ _ | exact Kd.S_nil _ _ _ _ _⟩, ⟨by (with_reducible repeat (first | refine blk_drewN ?_ _ | refine blk_drew ?_ | refine blk_alloc ?_ _)); exact BK133.out⟩, ⟨by repeat (first | (with_reducible first | exact HB.out | apply below_alloc | apply pw_below_drewN | apply below_drew1 | refine below_set ?_ GE133.out) | exact HB.out)⟩⟩
        case round =>
          clear H'
          try clear c1
          try clear p2
          try clear c3
          try clear c4
          try clear c6
          try clear c7
          try clear c7b0
          try clear c8
          try clear c8b0
          try clear c9
          try clear c9b0
          try clear c12
          try clear p2
          obtain ⟨x8_2, x35_2, x134000_2, x134001_2, x134002_2, x134003_2, x134004_2, x134005_2, rfl, HA, HK2, HO_8, BK133, HB⟩ := hrel
          cases gk with
          | zero => exact absurd HA.out (by simp [agg_Rollup.l0])
          | succ k2 =>
            have H := HA.out
            clear HA
            simp only [agg_Rollup.l0] at H
            by_cases c14 : x35_2 < (l0.length : Int)
            · rw [if_pos c14] at H
              have c14b0 : decide (x35_2 < (l0.length : Int)) = true := decide_eq_true c14
              clear c14
              by_cases c15 : 0 ≤ x35_2
              · rw [if_pos c15] at H
                have c15b0 : decide (0 ≤ x35_2) = true := decide_eq_true c15
                clear c15
                by_cases c16 : x35_2 < (l0.length : Int)
                · rw [if_pos c16] at H
                  have c16b0 : decide (x35_2 < (l0.length : Int)) = true := decide_eq_true c16
                  clear c16
                  replace H := Option.bind_eq_some_iff.mp H
                  obtain ⟨⟨t136, t137, t138, t139, t140, t141⟩, A170, H⟩ := H
                  replace H : ((agg_Join.f x134000_2 x134001_2 x134002_2 x134003_2 x134004_2 x134005_2 t136 t137 t138 t139 t140 t141).bind fun bt142 => (if a1 = 0 then (none) else (if (wrap64 (x35_2 + 1)) < (l0.length : Int) then (if 0 ≤ (wrap64 (x35_2 + 1)) then (if (wrap64 (((rd_T33 l0 (wrap64 (x35_2 + 1))).f0) - (wrap64 (((rd_T33 l0 x35_2).f0) - (Int.tmod (wrap64 ((Int.tmod ((rd_T33 l0 x35_2).f0) a1) + a1)) a1))))) < a1 then (agg_Rollup.l0 k2 l0 a1 a2 x8_2 l0 (l0.length : Int) (wrap64 (x35_2 + 1)) bt142.1 bt142.2.1 bt142.2.2.1 bt142.2.2.2.1 bt142.2.2.2.2.1 bt142.2.2.2.2.2) else ((agg_told_fields.f bt142.1 bt142.2.1 bt142.2.2.1 bt142.2.2.2.1 bt142.2.2.2.2.1 bt142.2.2.2.2.2).bind fun bt149 => (if 0 ≤ a2 then (if a2 < 6 then (if x8_2.length < 8796093022208 then (agg_Rollup.l0 k2 l0 a1 a2 (x8_2 ++ [(⟨wrap64 (((rd_T33 l0 x35_2).f0) - (Int.tmod (wrap64 ((Int.tmod ((rd_T33 l0 x35_2).f0) a1) + a1)) a1)), rd [bt149.1, bt149.2.1, bt149.2.2.1, bt149.2.2.2.1, bt149.2.2.2.2.1, bt149.2.2.2.2.2] a2⟩ : S33)]) l0 (l0.length : Int) (wrap64 (x35_2 + 1)) 0 0 0 0 0 0) else (none)) else (none)) else (none)))) else (none)) else ((agg_told_fields.f bt142.1 bt142.2.1 bt142.2.2.1 bt142.2.2.2.1 bt142.2.2.2.2.1 bt142.2.2.2.2.2).bind fun bt158 => (if 0 ≤ a2 then (if a2 < 6 then (if x8_2.length < 8796093022208 then (agg_Rollup.l0 k2 l0 a1 a2 (x8_2 ++ [(⟨wrap64 (((rd_T33 l0 x35_2).f0) - (Int.tmod (wrap64 ((Int.tmod ((rd_T33 l0 x35_2).f0) a1) + a1)) a1)), rd [bt158.1, bt158.2.1, bt158.2.2.1, bt158.2.2.2.1, bt158.2.2.2.2.1, bt158.2.2.2.2.2] a2⟩ : S33)]) l0 (l0.length : Int) (wrap64 (x35_2 + 1)) 0 0 0 0 0 0) else (none)) else (none)) else (none)))))) = some (r1, r2) := H
                  have A17 := Aside0.mk A170
                  clear A170
                  replace H := Option.bind_eq_some_iff.mp H
                  obtain ⟨⟨t142, t143, t144, t145, t146, t147⟩, A180, H⟩ := H
                  replace H : (if a1 = 0 then (none) else (if (wrap64 (x35_2 + 1)) < (l0.length : Int) then (if 0 ≤ (wrap64 (x35_2 + 1)) then (if (wrap64 (((rd_T33 l0 (wrap64 (x35_2 + 1))).f0) - (wrap64 (((rd_T33 l0 x35_2).f0) - (Int.tmod (wrap64 ((Int.tmod ((rd_T33 l0 x35_2).f0) a1) + a1)) a1))))) < a1 then (agg_Rollup.l0 k2 l0 a1 a2 x8_2 l0 (l0.length : Int) (wrap64 (x35_2 + 1)) t142 t143 t144 t145 t146 t147) else ((agg_told_fields.f t142 t143 t144 t145 t146 t147).bind fun bt149 => (if 0 ≤ a2 then (if a2 < 6 then (if x8_2.length < 8796093022208 then (agg_Rollup.l0 k2 l0 a1 a2 (x8_2 ++ [(⟨wrap64 (((rd_T33 l0 x35_2).f0) - (Int.tmod (wrap64 ((Int.tmod ((rd_T33 l0 x35_2).f0) a1) + a1)) a1)), rd [bt149.1, bt149.2.1, bt149.2.2.1, bt149.2.2.2.1, bt149.2.2.2.2.1, bt149.2.2.2.2.2] a2⟩ : S33)]) l0 (l0.length : Int) (wrap64 (x35_2 + 1)) 0 0 0 0 0 0) else (none)) else (none)) else (none)))) else (none)) else ((agg_told_fields.f t142 t143 t144 t145 t146 t147).bind fun bt158 => (if 0 ≤ a2 then (if a2 < 6 then (if x8_2.length < 8796093022208 then (agg_Rollup.l0 k2 l0 a1 a2 (x8_2 ++ [(⟨wrap64 (((rd_T33 l0 x35_2).f0) - (Int.tmod (wrap64 ((Int.tmod ((rd_T33 l0 x35_2).f0) a1) + a1)) a1)), rd [bt158.1, bt158.2.1, bt158.2.2.1, bt158.2.2.2.1, bt158.2.2.2.2.1, bt158.2.2.2.2.2] a2⟩ : S33)]) l0 (l0.length : Int) (wrap64 (x35_2 + 1)) 0 0 0 0 0 0) else (none)) else (none)) else (none))))) = some (r1, r2) := H
                  have A18 := Aside0.mk A180
                  clear A180
                  by_cases c19 : a1 = 0
                  · rw [if_pos c19] at H
                    exact absurd H (by simp)
                  · rw [if_neg c19] at H
                    have c19b0 : (a1 == 0) = false := beq_eq_false_iff_ne.mpr c19
                    have c19b1 : (a1 != 0) = true := bne_iff_ne.mpr c19
                    by_cases c20 : (wrap64 (x35_2 + 1)) < (l0.length : Int)
                    · rw [if_pos c20] at H
                      have c20b0 : decide ((wrap64 (x35_2 + 1)) < (l0.length : Int)) = true := decide_eq_true c20
                      clear c20
                      obtain ⟨ji21, hji21⟩ : ∃ j_ : Int, (wrap64 (x35_2 + 1)) = j_ := ⟨_, rfl⟩
                      replace H : (if 0 ≤ (ji21) then (if (wrap64 (((rd_T33 l0 (ji21)).f0) - (wrap64 (((rd_T33 l0 x35_2).f0) - (Int.tmod (wrap64 ((Int.tmod ((rd_T33 l0 x35_2).f0) a1) + a1)) a1))))) < a1 then (agg_Rollup.l0 k2 l0 a1 a2 x8_2 l0 (l0.length : Int) ji21 t142 t143 t144 t145 t146 t147) else ((agg_told_fields.f t142 t143 t144 t145 t146 t147).bind fun bt149 => (if 0 ≤ a2 then (if a2 < 6 then (if x8_2.length < 8796093022208 then (agg_Rollup.l0 k2 l0 a1 a2 (x8_2 ++ [(⟨wrap64 (((rd_T33 l0 x35_2).f0) - (Int.tmod (wrap64 ((Int.tmod ((rd_T33 l0 x35_2).f0) a1) + a1)) a1)), rd [bt149.1, bt149.2.1, bt149.2.2.1, bt149.2.2.2.1, bt149.2.2.2.2.1, bt149.2.2.2.2.2] a2⟩ : S33)]) l0 (l0.length : Int) ji21 0 0 0 0 0 0) else (none)) else (none)) else (none)))) else (none)) = some (r1, r2) := by first | (rw [hji21] at H; exact H) | (simp only [hji21] at H ⊢; exact H)
                      (try rw [hji21] at c20b0)
                      (try rw [hji21] at A17)
                      (try rw [hji21] at A18)
                      have hji21w : (IntKind.i64.wrap (x35_2 + 1)) = ji21 := (i64_w _).trans hji21
                      by_cases c22 : 0 ≤ (ji21)
                      · rw [if_pos c22] at H
                        have c22b0 : decide (0 ≤ (ji21)) = true := decide_eq_true c22
                        clear c22
                        by_cases c23 : (wrap64 (((rd_T33 l0 (ji21)).f0) - (wrap64 (((rd_T33 l0 x35_2).f0) - (Int.tmod (wrap64 ((Int.tmod ((rd_T33 l0 x35_2).f0) a1) + a1)) a1))))) < a1
                        · rw [if_pos c23] at H
                          have c23b0 : decide ((wrap64 (((rd_T33 l0 (ji21)).f0) - (wrap64 (((rd_T33 l0 x35_2).f0) - (Int.tmod (wrap64 ((Int.tmod ((rd_T33 l0 x35_2).f0) a1) + a1)) a1))))) < a1) = true := decide_eq_true c23
                          clear c23
                          have H' := Aside0.mk H
                          clear H
                          have p134 : 0 ≤ (x35_2 : Int) := of_decide_eq_true (by first | (with_reducible assumption) | assumption)
                          have q134 : x35_2 < (l0.length : Int) := of_decide_eq_true (by first | (with_reducible assumption) | assumption)
                          obtain ⟨ad134, e134, hx134_0, hx134_1⟩ := at_T33 HR0.out x35_2 p134 q134
                          cases e134
                          replace hx134_0 := (HB.out.cell (World.block_lt_of_cell? w _ hx134_0)).trans hx134_0
                          replace hx134_1 := (HB.out.cell (World.block_lt_of_cell? w _ hx134_1)).trans hx134_1
                          replace p134 := eq_true p134
                          replace q134 := eq_true q134
                          try go_wp2_with (first | ((with_reducible refine gate_dst (N := 11) rfl ?_); refine box_event ?hg (N := 11) ?hd (cs := #[.int .i64 0, .int .i64 0]) (t := 33) ?hr ?_; (case hd => rfl); (case hg => rfl); (case hr => first | (go_simp; done) | (go_simp; rfl)); intro gb135 hg w24 hbox hb; have n0_ := Aside0.mk (Kd.R_below (Kd.R_elderB (by (with_reducible repeat (first | apply Kd.R_alloc | apply Kd.R_drewN | apply Kd.R_drew)); exact HO_8.out) gb135 (Nat.le_of_eq hg.symm)) hb); have n1_ := Aside0.mk (blk_below (g := gb133) (o := .cells #[.int .i64 x134000_2, .int .i64 x134001_2, .int .i64 x134002_2, .int .i64 x134003_2, .int .i64 x134004_2, .int .i64 x134005_2] 50 (0, 0)) (by (with_reducible repeat (first | refine blk_drewN ?_ _ | refine blk_drew ?_ | refine blk_alloc ?_ _)); exact BK133.out) hb); have n2_ := Aside0.mk (below_step (by repeat (first | (with_reducible first | exact HB.out | apply below_alloc | apply pw_below_drewN | apply below_drew1 | refine below_set ?_ GE133.out) | exact HB.out)) hb); have n3_ := Aside0.mk (hbox); have n4_ := Aside0.mk ((by rw [hg]; exact (below_size (by repeat (first | (with_reducible first | exact HB.out | apply below_alloc | apply pw_below_drewN | apply below_drew1 | refine below_set ?_ GE133.out) | exact HB.out))) : w.heap.size ≤ gb135)); have n5_ := Aside0.mk ((by rw [hg]; exact (below_size (by repeat (first | (with_reducible first | exact HB.out | apply below_alloc | apply pw_below_drewN | apply below_drew1 | refine below_set ?_ GE133.out) | exact HB.out))) : w.heap.size ≤ gb135)); have n6_ := Aside0.mk ((by rw [hg]; exact Nat.ne_of_lt (blk_lt (g := gb133) (o := .cells #[.int .i64 x134000_2, .int .i64 x134001_2, .int .i64 x134002_2, .int .i64 x134003_2, .int .i64 x134004_2, .int .i64 x134005_2] 50 (0, 0)) (by (with_reducible repeat (first | refine blk_drewN ?_ _ | refine blk_drew ?_ | refine blk_alloc ?_ _)); exact BK133.out)) : gb133 ≠ gb135)); have n7_ := Aside0.mk ((by rw [hg]; exact Nat.ne_of_gt (blk_lt (g := gb133) (o := .cells #[.int .i64 x134000_2, .int .i64 x134001_2, .int .i64 x134002_2, .int .i64 x134003_2, .int .i64 x134004_2, .int .i64 x134005_2] 50 (0, 0)) (by (with_reducible repeat (first | refine blk_drewN ?_ _ | refine blk_drew ?_ | refine blk_alloc ?_ _)); exact BK133.out)) : gb135 ≠ gb133)); clear HO_8; clear BK133; clear HB; have HO_8 := n0_; have BK133 := n1_; have HB := n2_; have BK135 := n3_; have GW135 := n4_; have GE135 := n5_; have NB133_135 := n6_; have NB135_133 := n7_; clear n0_ n1_ n2_ n3_ n4_ n5_ n6_ n7_; clear hb hbox hg; have hnb25 := NB135_133.out; have hnc25 := NB133_135.out; have hcz26_0 : w24.cell? ⟨gb135, 0, none⟩ = some (.int .i64 0) := (blk_cell BK135.out 0).trans rfl; have hcz26_1 : w24.cell? ⟨gb135, 1, none⟩ = some (.int .i64 0) := (blk_cell BK135.out 1).trans rfl; have hfz26_0 := blk_frozen BK135.out 0; have hfz26_1 := blk_frozen BK135.out 1))
                          have n0_ : Aside0 (Kd.R k33 33 ((w24.setCell ⟨gb135, 0, none⟩ (.int .i64 ((rd_T33 l0 x35_2).f0))).setCell ⟨gb135, 1, none⟩ (.int .i64 ((rd_T33 l0 x35_2).f1))) w.heap.size (fun k_ => k_ ≠ gb135) u8 x8_2) := ⟨by (with_reducible repeat (first | apply Kd.R_alloc | apply Kd.R_drewN | apply Kd.R_drew)); exact Kd.R_mono (Kd.R_far (p := ⟨gb135, 1, none⟩) (Kd.R_far (p := ⟨gb135, 0, none⟩) (Kd.R_mono HO_8.out (fun k_ hk => (⟨hk, hk.2⟩ : _ ∧ k_ ≠ gb135))) (fun _ hk => hk.2) (.int .i64 ((rd_T33 l0 x35_2).f0))) (fun _ hk => hk.2) (.int .i64 ((rd_T33 l0 x35_2).f1))) (fun _ hk => hk.1.2)⟩
                          have n1_ : Aside0 (((w24.setCell ⟨gb135, 0, none⟩ (.int .i64 ((rd_T33 l0 x35_2).f0))).setCell ⟨gb135, 1, none⟩ (.int .i64 ((rd_T33 l0 x35_2).f1))).heap[gb133]? = some (.cells #[.int .i64 x134000_2, .int .i64 x134001_2, .int .i64 x134002_2, .int .i64 x134003_2, .int .i64 x134004_2, .int .i64 x134005_2] 50 (0, 0))) := ⟨by (with_reducible repeat (first | refine blk_drewN ?_ _ | refine blk_drew ?_ | refine blk_alloc ?_ _)); refine blk_far ?_ NB133_135.out _; (with_reducible repeat (first | refine blk_drewN ?_ _ | refine blk_drew ?_ | refine blk_alloc ?_ _)); refine blk_far ?_ NB133_135.out _; (with_reducible repeat (first | refine blk_drewN ?_ _ | refine blk_drew ?_ | refine blk_alloc ?_ _)); exact BK133.out⟩
                          have n2_ : Aside0 (((w24.setCell ⟨gb135, 0, none⟩ (.int .i64 ((rd_T33 l0 x35_2).f0))).setCell ⟨gb135, 1, none⟩ (.int .i64 ((rd_T33 l0 x35_2).f1))).heap[gb135]? = some (.cells #[.int .i64 ((rd_T33 l0 x35_2).f0), .int .i64 ((rd_T33 l0 x35_2).f1)] 33 (0, 0))) := ⟨by (with_reducible repeat (first | refine blk_drewN ?_ _ | refine blk_drew ?_ | refine blk_alloc ?_ _)); refine blk_put (cs := #[.int .i64 ((rd_T33 l0 x35_2).f0), .int .i64 0]) ?_ 1 _ rfl; (with_reducible repeat (first | refine blk_drewN ?_ _ | refine blk_drew ?_ | refine blk_alloc ?_ _)); refine blk_put (cs := #[.int .i64 0, .int .i64 0]) ?_ 0 _ rfl; (with_reducible repeat (first | refine blk_drewN ?_ _ | refine blk_drew ?_ | refine blk_alloc ?_ _)); exact BK135.out⟩
                          have n3_ : Aside0 (Below w.heap.size w ((w24.setCell ⟨gb135, 0, none⟩ (.int .i64 ((rd_T33 l0 x35_2).f0))).setCell ⟨gb135, 1, none⟩ (.int .i64 ((rd_T33 l0 x35_2).f1)))) := ⟨by repeat (first | (with_reducible first | exact HB.out | apply below_alloc | apply pw_below_drewN | apply below_drew1 | refine below_set ?_ GE133.out | refine below_set ?_ GE135.out) | exact HB.out)⟩
                          (try clear HO_8)
                          (try clear BK133)
                          (try clear BK135)
                          (try clear HB)
                          generalize ((w24.setCell ⟨gb135, 0, none⟩ (.int .i64 ((rd_T33 l0 x35_2).f0))).setCell ⟨gb135, 1, none⟩ (.int .i64 ((rd_T33 l0 x35_2).f1))) = w27 at n0_ n1_ n2_ n3_ ⊢
                          have HO_8 := n0_
                          have BK133 := n1_
                          have BK135 := n2_
                          have HB := n3_
                          clear n0_ n1_ n2_ n3_
                          have n0_ := Aside0.mk (Kd.R_drew HO_8.out)
                          have n1_ := Aside0.mk (blk_drew BK133.out)
                          have n2_ := Aside0.mk (blk_drew BK135.out)
                          have n3_ := Aside0.mk (below_drew1 HB.out)
                          clear HO_8
                          clear BK133
                          clear BK135
                          clear HB
                          have HO_8 := n0_
                          have BK133 := n1_
                          have BK135 := n2_
                          have HB := n3_
                          clear n0_ n1_ n2_ n3_
                          refine start_ (n := 5) (S := fun w' => w'.cell? ⟨gb133, 0, none⟩ = some (.int .i64 x134000_2) ∧ w'.cell? ⟨gb133, 1, none⟩ = some (.int .i64 x134001_2) ∧ w'.cell? ⟨gb133, 2, none⟩ = some (.int .i64 x134002_2) ∧ w'.cell? ⟨gb133, 3, none⟩ = some (.int .i64 x134003_2) ∧ w'.cell? ⟨gb133, 4, none⟩ = some (.int .i64 x134004_2) ∧ w'.cell? ⟨gb133, 5, none⟩ = some (.int .i64 x134005_2) ∧ w'.cell? ⟨gb135, 0, none⟩ = some (.int .i64 ((rd_T33 l0 x35_2).f0)) ∧ w'.cell? ⟨gb135, 1, none⟩ = some (.int .i64 ((rd_T33 l0 x35_2).f1))) (ds := [4]) #[false, false, false, false, false] (by kernel_rfl) rfl rfl ⟨(blk_cell BK133.out 0).trans rfl, (blk_cell BK133.out 1).trans rfl, (blk_cell BK133.out 2).trans rfl, (blk_cell BK133.out 3).trans rfl, (blk_cell BK133.out 4).trans rfl, (blk_cell BK133.out 5).trans rfl, (blk_cell BK135.out 0).trans rfl, (blk_cell BK135.out 1).trans rfl⟩ (fun hHeld => ?_)
                          generalize w27.drew = w28 at HO_8 BK133 BK135 HB hHeld ⊢
                          refine take_ (i := 0) (N := some 40) (v := ?_) (a' := ?_) #[true, false, false, false, false] rfl rfl (by kernel_rfl) (fun _ _ _ h => h) (Or.inl ⟨by rfl, ?_⟩) hHeld ?_ ?_
                          rotate_left
                          · rintro w' ⟨s0, s1, s2, s3, s4, s5, s6, s7⟩
                            go_simp
                            with_reducible rfl
                          rotate_left
                          · simp only [Act.put, List.setIfInBounds_toArray, List.set_cons_zero, List.set_cons_succ, i64_w, i32_w]
                            rfl
                          refine take_ (i := 1) (N := some 41) (v := ?_) (a' := ?_) #[true, true, false, false, false] rfl rfl (by kernel_rfl) (fun _ _ _ h => h) (Or.inl ⟨by rfl, ?_⟩) hHeld ?_ ?_
                          rotate_left
                          · rintro w' ⟨s0, s1, s2, s3, s4, s5, s6, s7⟩
                            go_simp
                            with_reducible rfl
                          rotate_left
                          · simp only [Act.put, List.setIfInBounds_toArray, List.set_cons_zero, List.set_cons_succ, i64_w, i32_w]
                            rfl
                          refine one_ (i := 2) (N := some 42) #[true, true, true, false, false] rfl rfl (by kernel_rfl) (by decide) (fun K hK => ?_)
                          refine goes_ Try.func43 (by kernel_rfl) rfl #[.agg #[.int .i64 ((rd_T33 l0 x35_2).f0), .int .i64 ((rd_T33 l0 x35_2).f1)]] (by rfl) rfl rfl (by (try simp only [List.map_toArray, List.map_cons, List.map_nil]); first | done | rfl | (simp only [List.length_drop, List.length_take]; rfl)) ?_
                          with_reducible refine (agg_one.calls ((rd_T33 l0 x35_2).f0) ((rd_T33 l0 x35_2).f1) t136 t137 t138 t139 t140 t141 _ A17.out).mono ?_
                          rintro e w29 ⟨rfl, hb⟩
                          refine ⟨_, rfl, ?_⟩
                          have n0_ := Aside0.mk (Kd.R_below (by (with_reducible repeat (first | apply Kd.R_alloc | apply Kd.R_drewN | apply Kd.R_drew)); exact HO_8.out) hb)
                          have n1_ := Aside0.mk (blk_below (g := gb133) (o := .cells #[.int .i64 x134000_2, .int .i64 x134001_2, .int .i64 x134002_2, .int .i64 x134003_2, .int .i64 x134004_2, .int .i64 x134005_2] 50 (0, 0)) (by (with_reducible repeat (first | refine blk_drewN ?_ _ | refine blk_drew ?_ | refine blk_alloc ?_ _)); exact BK133.out) hb)
                          have n2_ := Aside0.mk (blk_below (g := gb135) (o := .cells #[.int .i64 ((rd_T33 l0 x35_2).f0), .int .i64 ((rd_T33 l0 x35_2).f1)] 33 (0, 0)) (by (with_reducible repeat (first | refine blk_drewN ?_ _ | refine blk_drew ?_ | refine blk_alloc ?_ _)); exact BK135.out) hb)
                          have n3_ := Aside0.mk (below_step (by repeat (first | (with_reducible first | exact HB.out | apply below_alloc | apply pw_below_drewN | apply below_drew1 | refine below_set ?_ GE133.out | refine below_set ?_ GE135.out) | exact HB.out)) hb)
                          clear HO_8
                          clear BK133
                          clear BK135
                          clear HB
                          have HO_8 := n0_
                          have BK133 := n1_
                          have BK135 := n2_
                          have HB := n3_
                          clear n0_ n1_ n2_ n3_
                          (try clear hb)
                          (try clear hb2)
                          (try clear hk)
                          (try clear hi)
                          refine hK.out _ _ ⟨(blk_cell BK133.out 0).trans rfl, (blk_cell BK133.out 1).trans rfl, (blk_cell BK133.out 2).trans rfl, (blk_cell BK133.out 3).trans rfl, (blk_cell BK133.out 4).trans rfl, (blk_cell BK133.out 5).trans rfl, (blk_cell BK135.out 0).trans rfl, (blk_cell BK135.out 1).trans rfl⟩ (fun hHeld => ?_)
                          clear hK K
                          refine norm_ (a' := ?_) ?_ ?_
                          rotate_left
                          · show Act.put _ (some 42) _ = _
                            simp only [Act.put, List.setIfInBounds_toArray, List.set_cons_zero, List.set_cons_succ, i64_w, i32_w]
                            rfl
                          refine one_ (i := 3) (N := some 43) #[true, true, true, true, false] rfl rfl (by kernel_rfl) (by decide) (fun K hK => ?_)
                          refine goes_ Try.func32 (by kernel_rfl) rfl #[.agg #[.int .i64 x134000_2, .int .i64 x134001_2, .int .i64 x134002_2, .int .i64 x134003_2, .int .i64 x134004_2, .int .i64 x134005_2], .agg #[.int .i64 t136, .int .i64 t137, .int .i64 t138, .int .i64 t139, .int .i64 t140, .int .i64 t141]] (by rfl) rfl rfl (by (try simp only [List.map_toArray, List.map_cons, List.map_nil]); first | done | rfl | (simp only [List.length_drop, List.length_take]; rfl)) ?_
                          with_reducible refine (agg_Join.calls x134000_2 x134001_2 x134002_2 x134003_2 x134004_2 x134005_2 t136 t137 t138 t139 t140 t141 t142 t143 t144 t145 t146 t147 _ A18.out).mono ?_
                          rintro e w30 ⟨rfl, hb⟩
                          refine ⟨_, rfl, ?_⟩
                          have n0_ := Aside0.mk (Kd.R_below (by (with_reducible repeat (first | apply Kd.R_alloc | apply Kd.R_drewN | apply Kd.R_drew)); exact HO_8.out) hb)
                          have n1_ := Aside0.mk (blk_below (g := gb133) (o := .cells #[.int .i64 x134000_2, .int .i64 x134001_2, .int .i64 x134002_2, .int .i64 x134003_2, .int .i64 x134004_2, .int .i64 x134005_2] 50 (0, 0)) (by (with_reducible repeat (first | refine blk_drewN ?_ _ | refine blk_drew ?_ | refine blk_alloc ?_ _)); exact BK133.out) hb)
                          have n2_ := Aside0.mk (blk_below (g := gb135) (o := .cells #[.int .i64 ((rd_T33 l0 x35_2).f0), .int .i64 ((rd_T33 l0 x35_2).f1)] 33 (0, 0)) (by (with_reducible repeat (first | refine blk_drewN ?_ _ | refine blk_drew ?_ | refine blk_alloc ?_ _)); exact BK135.out) hb)
                          have n3_ := Aside0.mk (below_step (by repeat (first | (with_reducible first | exact HB.out | apply below_alloc | apply pw_below_drewN | apply below_drew1 | refine below_set ?_ GE133.out | refine below_set ?_ GE135.out) | exact HB.out)) hb)
                          clear HO_8
                          clear BK133
                          clear BK135
                          clear HB
                          have HO_8 := n0_
                          have BK133 := n1_
                          have BK135 := n2_
                          have HB := n3_
                          clear n0_ n1_ n2_ n3_
                          (try clear hb)
                          (try clear hb2)
                          (try clear hk)
                          (try clear hi)
                          refine hK.out _ _ ⟨(blk_cell BK133.out 0).trans rfl, (blk_cell BK133.out 1).trans rfl, (blk_cell BK133.out 2).trans rfl, (blk_cell BK133.out 3).trans rfl, (blk_cell BK133.out 4).trans rfl, (blk_cell BK133.out 5).trans rfl, (blk_cell BK135.out 0).trans rfl, (blk_cell BK135.out 1).trans rfl⟩ (fun hHeld => ?_)
                          clear hK K
                          refine norm_ (a' := ?_) ?_ ?_
                          rotate_left
                          · show Act.put _ (some 43) _ = _
                            simp only [Act.put, List.setIfInBounds_toArray, List.set_cons_zero, List.set_cons_succ, i64_w, i32_w]
                            rfl
                          refine last_ (i := 4) (N := none) #[true, true, true, true, true] rfl rfl (by kernel_rfl) (by decide) (fun K hK => ?_)
                          have hs31 : w30.cell? ⟨gb133, 0, none⟩ = some (.int .i64 x134000_2) := (blk_cell BK133.out 0).trans rfl
                          have hfs31 := blk_frozen BK133.out 0
                          have hns31_1 := NB135_133.out
                          have hms31_1 := NB133_135.out
                          have hs32 : w30.cell? ⟨gb133, 1, none⟩ = some (.int .i64 x134001_2) := (blk_cell BK133.out 1).trans rfl
                          have hfs32 := blk_frozen BK133.out 1
                          have hns32_1 := NB135_133.out
                          have hms32_1 := NB133_135.out
                          have hs33 : w30.cell? ⟨gb133, 2, none⟩ = some (.int .i64 x134002_2) := (blk_cell BK133.out 2).trans rfl
                          have hfs33 := blk_frozen BK133.out 2
                          have hns33_1 := NB135_133.out
                          have hms33_1 := NB133_135.out
                          have hs34 : w30.cell? ⟨gb133, 3, none⟩ = some (.int .i64 x134003_2) := (blk_cell BK133.out 3).trans rfl
                          have hfs34 := blk_frozen BK133.out 3
                          have hns34_1 := NB135_133.out
                          have hms34_1 := NB133_135.out
                          have hs35 : w30.cell? ⟨gb133, 4, none⟩ = some (.int .i64 x134004_2) := (blk_cell BK133.out 4).trans rfl
                          have hfs35 := blk_frozen BK133.out 4
                          have hns35_1 := NB135_133.out
                          have hms35_1 := NB133_135.out
                          have hs36 : w30.cell? ⟨gb133, 5, none⟩ = some (.int .i64 x134005_2) := (blk_cell BK133.out 5).trans rfl
                          have hfs36 := blk_frozen BK133.out 5
                          have hns36_1 := NB135_133.out
                          have hms36_1 := NB133_135.out
                          refine skip_ (w1 := ?_) (by rfl) rfl ?_ ?_
                          rotate_left
                          · go_simp
                            rfl
                          refine hK.out _ _ ?_
                          clear hK K
                          refine done_ (by kernel_rfl) ?_
                          try go_wp2
                          have n0_ : Aside0 (Kd.R k33 33 ((((((w30.setCell ⟨gb133, 0, none⟩ (.int .i64 t142)).setCell ⟨gb133, 1, none⟩ (.int .i64 t143)).setCell ⟨gb133, 2, none⟩ (.int .i64 t144)).setCell ⟨gb133, 3, none⟩ (.int .i64 t145)).setCell ⟨gb133, 4, none⟩ (.int .i64 t146)).setCell ⟨gb133, 5, none⟩ (.int .i64 t147)) w.heap.size (fun k_ => k_ ≠ gb135) u8 x8_2) := ⟨by (with_reducible repeat (first | apply Kd.R_alloc | apply Kd.R_drewN | apply Kd.R_drew)); exact Kd.R_mono (Kd.R_far (p := ⟨gb133, 5, none⟩) (Kd.R_far (p := ⟨gb133, 4, none⟩) (Kd.R_far (p := ⟨gb133, 3, none⟩) (Kd.R_far (p := ⟨gb133, 2, none⟩) (Kd.R_far (p := ⟨gb133, 1, none⟩) (Kd.R_far (p := ⟨gb133, 0, none⟩) (Kd.R_types HO_8.out BK133.out (by decide)) (fun _ hk => hk.2) (.int .i64 t142)) (fun _ hk => hk.2) (.int .i64 t143)) (fun _ hk => hk.2) (.int .i64 t144)) (fun _ hk => hk.2) (.int .i64 t145)) (fun _ hk => hk.2) (.int .i64 t146)) (fun _ hk => hk.2) (.int .i64 t147)) (fun _ hk => hk.1)⟩
                          have n1_ : Aside0 (((((((w30.setCell ⟨gb133, 0, none⟩ (.int .i64 t142)).setCell ⟨gb133, 1, none⟩ (.int .i64 t143)).setCell ⟨gb133, 2, none⟩ (.int .i64 t144)).setCell ⟨gb133, 3, none⟩ (.int .i64 t145)).setCell ⟨gb133, 4, none⟩ (.int .i64 t146)).setCell ⟨gb133, 5, none⟩ (.int .i64 t147)).heap[gb133]? = some (.cells #[.int .i64 t142, .int .i64 t143, .int .i64 t144, .int .i64 t145, .int .i64 t146, .int .i64 t147] 50 (0, 0))) := ⟨by (with_reducible repeat (first | refine blk_drewN ?_ _ | refine blk_drew ?_ | refine blk_alloc ?_ _)); refine blk_put (cs := #[.int .i64 t142, .int .i64 t143, .int .i64 t144, .int .i64 t145, .int .i64 t146, .int .i64 x134005_2]) ?_ 5 _ rfl; (with_reducible repeat (first | refine blk_drewN ?_ _ | refine blk_drew ?_ | refine blk_alloc ?_ _)); refine blk_put (cs := #[.int .i64 t142, .int .i64 t143, .int .i64 t144, .int .i64 t145, .int .i64 x134004_2, .int .i64 x134005_2]) ?_ 4 _ rfl; (with_reducible repeat (first | refine blk_drewN ?_ _ | refine blk_drew ?_ | refine blk_alloc ?_ _)); refine blk_put (cs := #[.int .i64 t142, .int .i64 t143, .int .i64 t144, .int .i64 x134003_2, .int .i64 x134004_2, .int .i64 x134005_2]) ?_ 3 _ rfl; (with_reducible repeat (first | refine blk_drewN ?_ _ | refine blk_drew ?_ | refine blk_alloc ?_ _)); refine blk_put (cs := #[.int .i64 t142, .int .i64 t143, .int .i64 x134002_2, .int .i64 x134003_2, .int .i64 x134004_2, .int .i64 x134005_2]) ?_ 2 _ rfl; (with_reducible repeat (first | refine blk_drewN ?_ _ | refine blk_drew ?_ | refine blk_alloc ?_ _)); refine blk_put (cs := #[.int .i64 t142, .int .i64 x134001_2, .int .i64 x134002_2, .int .i64 x134003_2, .int .i64 x134004_2, .int .i64 x134005_2]) ?_ 1 _ rfl; (with_reducible repeat (first | refine blk_drewN ?_ _ | refine blk_drew ?_ | refine blk_alloc ?_ _)); refine blk_put (cs := #[.int .i64 x134000_2, .int .i64 x134001_2, .int .i64 x134002_2, .int .i64 x134003_2, .int .i64 x134004_2, .int .i64 x134005_2]) ?_ 0 _ rfl; (with_reducible repeat (first | refine blk_drewN ?_ _ | refine blk_drew ?_ | refine blk_alloc ?_ _)); exact BK133.out⟩
                          have n2_ : Aside0 (((((((w30.setCell ⟨gb133, 0, none⟩ (.int .i64 t142)).setCell ⟨gb133, 1, none⟩ (.int .i64 t143)).setCell ⟨gb133, 2, none⟩ (.int .i64 t144)).setCell ⟨gb133, 3, none⟩ (.int .i64 t145)).setCell ⟨gb133, 4, none⟩ (.int .i64 t146)).setCell ⟨gb133, 5, none⟩ (.int .i64 t147)).heap[gb135]? = some (.cells #[.int .i64 ((rd_T33 l0 x35_2).f0), .int .i64 ((rd_T33 l0 x35_2).f1)] 33 (0, 0))) := ⟨by (with_reducible repeat (first | refine blk_drewN ?_ _ | refine blk_drew ?_ | refine blk_alloc ?_ _)); refine blk_far ?_ NB135_133.out _; (with_reducible repeat (first | refine blk_drewN ?_ _ | refine blk_drew ?_ | refine blk_alloc ?_ _)); refine blk_far ?_ NB135_133.out _; (with_reducible repeat (first | refine blk_drewN ?_ _ | refine blk_drew ?_ | refine blk_alloc ?_ _)); refine blk_far ?_ NB135_133.out _; (with_reducible repeat (first | refine blk_drewN ?_ _ | refine blk_drew ?_ | refine blk_alloc ?_ _)); refine blk_far ?_ NB135_133.out _; (with_reducible repeat (first | refine blk_drewN ?_ _ | refine blk_drew ?_ | refine blk_alloc ?_ _)); refine blk_far ?_ NB135_133.out _; (with_reducible repeat (first | refine blk_drewN ?_ _ | refine blk_drew ?_ | refine blk_alloc ?_ _)); refine blk_far ?_ NB135_133.out _; (with_reducible repeat (first | refine blk_drewN ?_ _ | refine blk_drew ?_ | refine blk_alloc ?_ _)); exact BK135.out⟩
                          have n3_ : Aside0 (Below w.heap.size w ((((((w30.setCell ⟨gb133, 0, none⟩ (.int .i64 t142)).setCell ⟨gb133, 1, none⟩ (.int .i64 t143)).setCell ⟨gb133, 2, none⟩ (.int .i64 t144)).setCell ⟨gb133, 3, none⟩ (.int .i64 t145)).setCell ⟨gb133, 4, none⟩ (.int .i64 t146)).setCell ⟨gb133, 5, none⟩ (.int .i64 t147))) := ⟨by repeat (first | (with_reducible first | exact HB.out | apply below_alloc | apply pw_below_drewN | apply below_drew1 | refine below_set ?_ GE133.out | refine below_set ?_ GE135.out) | exact HB.out)⟩
                          (try clear HO_8)
                          (try clear BK133)
                          (try clear BK135)
                          (try clear HB)
                          generalize ((((((w30.setCell ⟨gb133, 0, none⟩ (.int .i64 t142)).setCell ⟨gb133, 1, none⟩ (.int .i64 t143)).setCell ⟨gb133, 2, none⟩ (.int .i64 t144)).setCell ⟨gb133, 3, none⟩ (.int .i64 t145)).setCell ⟨gb133, 4, none⟩ (.int .i64 t146)).setCell ⟨gb133, 5, none⟩ (.int .i64 t147)) = w37 at n0_ n1_ n2_ n3_ ⊢
                          have HO_8 := n0_
                          have BK133 := n1_
                          have BK135 := n2_
                          have HB := n3_
                          clear n0_ n1_ n2_ n3_
                          have n0_ := Aside0.mk (Kd.R_drew HO_8.out)
                          have n1_ := Aside0.mk (blk_drew BK133.out)
                          have n2_ := Aside0.mk (blk_drew BK135.out)
                          have n3_ := Aside0.mk (below_drew1 HB.out)
                          clear HO_8
                          clear BK133
                          clear BK135
                          clear HB
                          have HO_8 := n0_
                          have BK133 := n1_
                          have BK135 := n2_
                          have HB := n3_
                          clear n0_ n1_ n2_ n3_
                          refine start_ (n := 12) (S := fun w' => w'.cell? ⟨gb135, 0, none⟩ = some (.int .i64 ((rd_T33 l0 x35_2).f0)) ∧ w'.cell? ⟨gb135, 1, none⟩ = some (.int .i64 ((rd_T33 l0 x35_2).f1))) (ds := []) #[false, false, false, false, false, false, false, false, false, false, false, false] (by kernel_rfl) rfl rfl ⟨(blk_cell BK135.out 0).trans rfl, (blk_cell BK135.out 1).trans rfl⟩ (fun hHeld => ?_); refine with_tabW agg_Rollup.tab9 agg_Rollup.bits9 (fun HT_ HW_ => ?_)
                          generalize w37.drew = w38 at HO_8 BK133 BK135 HB hHeld ⊢
                          refine pure_ (i := 0) (N := some 44) (v := ?_) (a' := ?_) #[true, false, false, false, false, false, false, false, false, false, false, false] rfl rfl (any_of HT_.out (by kernel_rfl)) (fun _ _ _ h => h) (Or.inl ⟨by rfl, ?_⟩) ?_ ?_
                          rotate_left
                          · intro w'
                            go_simp
                            with_reducible rfl
                          rotate_left
                          · simp only [Act.put, List.setIfInBounds_toArray, List.set_cons_zero, List.set_cons_succ, i64_w, i32_w]
                            rfl
                          refine pure_ (i := 2) (N := some 46) (v := ?_) (a' := ?_) #[true, false, true, false, false, false, false, false, false, false, false, false] rfl rfl (any_of HT_.out (by kernel_rfl)) (fun _ _ _ h => h) (Or.inl ⟨by rfl, ?_⟩) ?_ ?_
                          rotate_left
                          · intro w'
                            go_simp
                            with_reducible rfl
                          rotate_left
                          · simp only [Act.put, List.setIfInBounds_toArray, List.set_cons_zero, List.set_cons_succ, i64_w, i32_w]
                            rfl
                          refine pure_ (i := 4) (N := some 48) (v := ?_) (a' := ?_) #[true, false, true, false, true, false, false, false, false, false, false, false] rfl rfl (any_of HT_.out (by kernel_rfl)) (fun _ _ _ h => h) (Or.inl ⟨by rfl, ?_⟩) ?_ ?_
                          rotate_left
                          · intro w'
                            go_simp
                            with_reducible rfl
                          rotate_left
                          · simp only [Act.put, List.setIfInBounds_toArray, List.set_cons_zero, List.set_cons_succ, i64_w, i32_w]
                            rfl
                          refine pure_ (i := 6) (N := some 50) (v := ?_) (a' := ?_) #[true, false, true, false, true, false, true, false, false, false, false, false] rfl rfl (any_of HT_.out (by kernel_rfl)) (fun _ _ _ h => h) (Or.inl ⟨by rfl, ?_⟩) ?_ ?_
                          rotate_left
                          · intro w'
                            go_simp
                            with_reducible rfl
                          rotate_left
                          · simp only [Act.put, List.setIfInBounds_toArray, List.set_cons_zero, List.set_cons_succ, i64_w, i32_w]
                            rfl
                          refine pure_ (i := 8) (N := some 52) (v := ?_) (a' := ?_) #[true, false, true, false, true, false, true, false, true, false, false, false] rfl rfl (any_of HT_.out (by kernel_rfl)) (fun _ _ _ h => h) (Or.inl ⟨by rfl, ?_⟩) ?_ ?_
                          rotate_left
                          · intro w'
                            go_simp
                            with_reducible rfl
                          rotate_left
                          · simp only [Act.put, List.setIfInBounds_toArray, List.set_cons_zero, List.set_cons_succ, i64_w, i32_w]
                            rfl
                          refine take_ (i := 1) (N := some 45) (v := ?_) (a' := ?_) #[true, true, true, false, true, false, true, false, true, false, false, false] rfl rfl (take_ofW HT_.out HW_.out (by kernel_rfl)) (fun _ _ _ h => h) (Or.inl ⟨by rfl, ?_⟩) hHeld ?_ ?_
                          rotate_left
                          · rintro w' ⟨s0, s1⟩
                            go_simp
                            with_reducible rfl
                          rotate_left
                          · simp only [Act.put, List.setIfInBounds_toArray, List.set_cons_zero, List.set_cons_succ, i64_w, i32_w]
                            rfl
                          refine take_ (i := 3) (N := some 47) (v := ?_) (a' := ?_) #[true, true, true, true, true, false, true, false, true, false, false, false] rfl rfl (take_ofW HT_.out HW_.out (by kernel_rfl)) (fun _ _ _ h => h) (Or.inl ⟨by rfl, ?_⟩) hHeld ?_ ?_
                          rotate_left
                          · rintro w' ⟨s0, s1⟩
                            go_simp
                            with_reducible rfl
                          rotate_left
                          · simp only [Act.put, List.setIfInBounds_toArray, List.set_cons_zero, List.set_cons_succ, i64_w, i32_w]
                            rfl
                          refine pure_ (i := 5) (N := some 49) (v := ?_) (a' := ?_) #[true, true, true, true, true, true, true, false, true, false, false, false] rfl rfl (any_of HT_.out (by kernel_rfl)) (fun _ _ _ h => h) (Or.inl ⟨by rfl, ?_⟩) ?_ ?_
                          rotate_left
                          · intro w'
                            go_simp
                            with_reducible rfl
                          rotate_left
                          · simp only [Act.put, List.setIfInBounds_toArray, List.set_cons_zero, List.set_cons_succ, i64_w, i32_w]
                            rfl
                          refine pure_ (i := 7) (N := some 51) (v := ?_) (a' := ?_) #[true, true, true, true, true, true, true, true, true, false, false, false] rfl rfl (any_of HT_.out (by kernel_rfl)) (fun _ _ _ h => h) (Or.inl ⟨by rfl, ?_⟩) ?_ ?_
                          rotate_left
                          · intro w'
                            go_simp
                            with_reducible rfl
                          rotate_left
                          · simp only [Act.put, List.setIfInBounds_toArray, List.set_cons_zero, List.set_cons_succ, i64_w, i32_w]
                            rfl
                          refine pure_ (i := 9) (N := some 53) (v := ?_) (a' := ?_) #[true, true, true, true, true, true, true, true, true, true, false, false] rfl rfl (any_of HT_.out (by kernel_rfl)) (fun _ _ _ h => h) (Or.inl ⟨by rfl, ?_⟩) ?_ ?_
                          rotate_left
                          · intro w'
                            go_simp
                            with_reducible rfl
                          rotate_left
                          · simp only [Act.put, List.setIfInBounds_toArray, List.set_cons_zero, List.set_cons_succ, i64_w, i32_w]
                            rfl
                          refine pure_ (i := 10) (N := some 54) (v := ?_) (a' := ?_) #[true, true, true, true, true, true, true, true, true, true, true, false] rfl rfl (any_of HT_.out (by kernel_rfl)) (fun _ _ _ h => h) (Or.inl ⟨by rfl, ?_⟩) ?_ ?_
                          rotate_left
                          · intro w'
                            go_simp
                            with_reducible rfl
                          rotate_left
                          · simp only [Act.put, List.setIfInBounds_toArray, List.set_cons_zero, List.set_cons_succ, i64_w, i32_w]
                            rfl
                          refine pure_ (i := 11) (N := some 12) (v := ?_) (a' := ?_) #[true, true, true, true, true, true, true, true, true, true, true, true] rfl rfl (any_of HT_.out (by kernel_rfl)) (fun _ _ _ h => h) (Or.inl ⟨by rfl, ?_⟩) ?_ ?_
                          rotate_left
                          · intro w'
                            go_simp
                            with_reducible rfl
                          rotate_left
                          · simp only [Act.put, List.setIfInBounds_toArray, List.set_cons_zero, List.set_cons_succ, i64_w, i32_w]
                            rfl
                          refine done_ (done_of HT_.out (by kernel_rfl)) ?_
                          have p148 : 0 ≤ ((ji21) : Int) := of_decide_eq_true (by first | (with_reducible assumption) | assumption)
                          have q148 : (ji21) < (l0.length : Int) := of_decide_eq_true (by first | (with_reducible assumption) | assumption)
                          obtain ⟨ad148, e148, hx148_0, hx148_1⟩ := at_T33 HR0.out (ji21) p148 q148
                          obtain rfl : ad134 = ad148 := (by injection e148)
                          replace hx148_0 := (HB.out.cell (World.block_lt_of_cell? w _ hx148_0)).trans hx148_0
                          replace hx148_1 := (HB.out.cell (World.block_lt_of_cell? w _ hx148_1)).trans hx148_1
                          replace p148 := eq_true p148
                          replace q148 := eq_true q148
                          try go_wp2
                          go_roundg k2
                          case measure => have := HJ3.out; have := HK2.out; omega
                          case rel => exact ⟨(x8_2), (ji21), (t142), (t143), (t144), (t145), (t146), (t147), (by first | rfl | (simp; done) | (simp only [← hji21] <;> (first | rfl | simp)) | (simp [*]; done) | (simp <;> grind)), (by first | exact H' | (simp only [hji21]; exact H')), ⟨by have := HJ3.out; have := HK2.out; omega⟩, ⟨by (with_reducible repeat (first | apply Kd.R_alloc | apply Kd.R_drewN | apply Kd.R_drew)); exact Kd.R_mono HO_8.out (fun _ hk => trivial)⟩, ⟨by (with_reducible repeat (first | refine blk_drewN ?_ _ | refine blk_drew ?_ | refine blk_alloc ?_ _)); exact BK133.out⟩, ⟨by repeat (first | (with_reducible first | exact HB.out | apply below_alloc | apply pw_below_drewN | apply below_drew1 | refine below_set ?_ GE133.out | refine below_set ?_ GE135.out) | exact HB.out)⟩⟩
                        · rw [if_neg c23] at H
                          have c23b0 : decide ((wrap64 (((rd_T33 l0 (ji21)).f0) - (wrap64 (((rd_T33 l0 x35_2).f0) - (Int.tmod (wrap64 ((Int.tmod ((rd_T33 l0 x35_2).f0) a1) + a1)) a1))))) < a1) = false := decide_eq_false c23
                          clear c23
                          replace H := Option.bind_eq_some_iff.mp H
                          obtain ⟨⟨t149, t150, t151, t152, t153, t154⟩, A390, H⟩ := H
                          replace H : (if 0 ≤ a2 then (if a2 < 6 then (if x8_2.length < 8796093022208 then (agg_Rollup.l0 k2 l0 a1 a2 (x8_2 ++ [(⟨wrap64 (((rd_T33 l0 x35_2).f0) - (Int.tmod (wrap64 ((Int.tmod ((rd_T33 l0 x35_2).f0) a1) + a1)) a1)), rd [t149, t150, t151, t152, t153, t154] a2⟩ : S33)]) l0 (l0.length : Int) ji21 0 0 0 0 0 0) else (none)) else (none)) else (none)) = some (r1, r2) := H
                          have A39 := Aside0.mk A390
                          clear A390
                          by_cases c40 : 0 ≤ a2
                          · rw [if_pos c40] at H
                            have c40b0 : decide (0 ≤ a2) = true := decide_eq_true c40
                            clear c40
                            by_cases c41 : a2 < 6
                            · rw [if_pos c41] at H
                              have c41b0 : decide (a2 < 6) = true := decide_eq_true c41
                              clear c41
                              by_cases c42 : x8_2.length < 8796093022208
                              · rw [if_pos c42] at H
                                have LMc42 := Aside0.mk c42
                                clear c42
                                obtain ⟨y155, hy155⟩ : ∃ y_ : List (S33), y_ = (x8_2 ++ [(⟨wrap64 (((rd_T33 l0 x35_2).f0) - (Int.tmod (wrap64 ((Int.tmod ((rd_T33 l0 x35_2).f0) a1) + a1)) a1)), rd [t149, t150, t151, t152, t153, t154] a2⟩ : S33)]) := ⟨_, rfl⟩
                                replace H : (agg_Rollup.l0 k2 l0 a1 a2 y155 l0 (l0.length : Int) ji21 0 0 0 0 0 0) = some (r1, r2) := by first | (rw [hy155]; with_reducible exact H) | (have H2_ := (Option.bind_some _ _).symm.trans H; rw [hy155]; with_reducible exact H2_) | (have H2_ := (Option.bind_some _ _).symm.trans H; with_reducible exact H2_) | with_reducible exact H | (rw [hy155]; exact H) | exact H
                                have Ny155 := Aside0.mk hy155
                                clear hy155
                                have H' := Aside0.mk H
                                clear H
                                have p134 : 0 ≤ (x35_2 : Int) := of_decide_eq_true (by first | (with_reducible assumption) | assumption)
                                have q134 : x35_2 < (l0.length : Int) := of_decide_eq_true (by first | (with_reducible assumption) | assumption)
                                obtain ⟨ad134, e134, hx134_0, hx134_1⟩ := at_T33 HR0.out x35_2 p134 q134
                                cases e134
                                replace hx134_0 := (HB.out.cell (World.block_lt_of_cell? w _ hx134_0)).trans hx134_0
                                replace hx134_1 := (HB.out.cell (World.block_lt_of_cell? w _ hx134_1)).trans hx134_1
                                replace p134 := eq_true p134
                                replace q134 := eq_true q134
                                try go_wp2_with (first | ((with_reducible refine gate_dst (N := 11) rfl ?_); refine box_event ?hg (N := 11) ?hd (cs := #[.int .i64 0, .int .i64 0]) (t := 33) ?hr ?_; (case hd => rfl); (case hg => rfl); (case hr => first | (go_simp; done) | (go_simp; rfl)); intro gb135 hg w43 hbox hb; have n0_ := Aside0.mk (Kd.R_below (Kd.R_elderB (by (with_reducible repeat (first | apply Kd.R_alloc | apply Kd.R_drewN | apply Kd.R_drew)); exact HO_8.out) gb135 (Nat.le_of_eq hg.symm)) hb); have n1_ := Aside0.mk (blk_below (g := gb133) (o := .cells #[.int .i64 x134000_2, .int .i64 x134001_2, .int .i64 x134002_2, .int .i64 x134003_2, .int .i64 x134004_2, .int .i64 x134005_2] 50 (0, 0)) (by (with_reducible repeat (first | refine blk_drewN ?_ _ | refine blk_drew ?_ | refine blk_alloc ?_ _)); exact BK133.out) hb); have n2_ := Aside0.mk (below_step (by repeat (first | (with_reducible first | exact HB.out | apply below_alloc | apply pw_below_drewN | apply below_drew1 | refine below_set ?_ GE133.out) | exact HB.out)) hb); have n3_ := Aside0.mk (hbox); have n4_ := Aside0.mk ((by rw [hg]; exact (below_size (by repeat (first | (with_reducible first | exact HB.out | apply below_alloc | apply pw_below_drewN | apply below_drew1 | refine below_set ?_ GE133.out) | exact HB.out))) : w.heap.size ≤ gb135)); have n5_ := Aside0.mk ((by rw [hg]; exact (below_size (by repeat (first | (with_reducible first | exact HB.out | apply below_alloc | apply pw_below_drewN | apply below_drew1 | refine below_set ?_ GE133.out) | exact HB.out))) : w.heap.size ≤ gb135)); have n6_ := Aside0.mk ((by rw [hg]; exact Nat.ne_of_lt (blk_lt (g := gb133) (o := .cells #[.int .i64 x134000_2, .int .i64 x134001_2, .int .i64 x134002_2, .int .i64 x134003_2, .int .i64 x134004_2, .int .i64 x134005_2] 50 (0, 0)) (by (with_reducible repeat (first | refine blk_drewN ?_ _ | refine blk_drew ?_ | refine blk_alloc ?_ _)); exact BK133.out)) : gb133 ≠ gb135)); have n7_ := Aside0.mk ((by rw [hg]; exact Nat.ne_of_gt (blk_lt (g := gb133) (o := .cells #[.int .i64 x134000_2, .int .i64 x134001_2, .int .i64 x134002_2, .int .i64 x134003_2, .int .i64 x134004_2, .int .i64 x134005_2] 50 (0, 0)) (by (with_reducible repeat (first | refine blk_drewN ?_ _ | refine blk_drew ?_ | refine blk_alloc ?_ _)); exact BK133.out)) : gb135 ≠ gb133)); clear HO_8; clear BK133; clear HB; have HO_8 := n0_; have BK133 := n1_; have HB := n2_; have BK135 := n3_; have GW135 := n4_; have GE135 := n5_; have NB133_135 := n6_; have NB135_133 := n7_; clear n0_ n1_ n2_ n3_ n4_ n5_ n6_ n7_; clear hb hbox hg; have hnb44 := NB135_133.out; have hnc44 := NB133_135.out; have hcz45_0 : w43.cell? ⟨gb135, 0, none⟩ = some (.int .i64 0) := (blk_cell BK135.out 0).trans rfl; have hcz45_1 : w43.cell? ⟨gb135, 1, none⟩ = some (.int .i64 0) := (blk_cell BK135.out 1).trans rfl; have hfz45_0 := blk_frozen BK135.out 0; have hfz45_1 := blk_frozen BK135.out 1))
                                have n0_ : Aside0 (Kd.R k33 33 ((w43.setCell ⟨gb135, 0, none⟩ (.int .i64 ((rd_T33 l0 x35_2).f0))).setCell ⟨gb135, 1, none⟩ (.int .i64 ((rd_T33 l0 x35_2).f1))) w.heap.size (fun k_ => k_ ≠ gb135) u8 x8_2) := ⟨by (with_reducible repeat (first | apply Kd.R_alloc | apply Kd.R_drewN | apply Kd.R_drew)); exact Kd.R_mono (Kd.R_far (p := ⟨gb135, 1, none⟩) (Kd.R_far (p := ⟨gb135, 0, none⟩) (Kd.R_mono HO_8.out (fun k_ hk => (⟨hk, hk.2⟩ : _ ∧ k_ ≠ gb135))) (fun _ hk => hk.2) (.int .i64 ((rd_T33 l0 x35_2).f0))) (fun _ hk => hk.2) (.int .i64 ((rd_T33 l0 x35_2).f1))) (fun _ hk => hk.1.2)⟩
                                have n1_ : Aside0 (((w43.setCell ⟨gb135, 0, none⟩ (.int .i64 ((rd_T33 l0 x35_2).f0))).setCell ⟨gb135, 1, none⟩ (.int .i64 ((rd_T33 l0 x35_2).f1))).heap[gb133]? = some (.cells #[.int .i64 x134000_2, .int .i64 x134001_2, .int .i64 x134002_2, .int .i64 x134003_2, .int .i64 x134004_2, .int .i64 x134005_2] 50 (0, 0))) := ⟨by (with_reducible repeat (first | refine blk_drewN ?_ _ | refine blk_drew ?_ | refine blk_alloc ?_ _)); refine blk_far ?_ NB133_135.out _; (with_reducible repeat (first | refine blk_drewN ?_ _ | refine blk_drew ?_ | refine blk_alloc ?_ _)); refine blk_far ?_ NB133_135.out _; (with_reducible repeat (first | refine blk_drewN ?_ _ | refine blk_drew ?_ | refine blk_alloc ?_ _)); exact BK133.out⟩
                                have n2_ : Aside0 (((w43.setCell ⟨gb135, 0, none⟩ (.int .i64 ((rd_T33 l0 x35_2).f0))).setCell ⟨gb135, 1, none⟩ (.int .i64 ((rd_T33 l0 x35_2).f1))).heap[gb135]? = some (.cells #[.int .i64 ((rd_T33 l0 x35_2).f0), .int .i64 ((rd_T33 l0 x35_2).f1)] 33 (0, 0))) := ⟨by (with_reducible repeat (first | refine blk_drewN ?_ _ | refine blk_drew ?_ | refine blk_alloc ?_ _)); refine blk_put (cs := #[.int .i64 ((rd_T33 l0 x35_2).f0), .int .i64 0]) ?_ 1 _ rfl; (with_reducible repeat (first | refine blk_drewN ?_ _ | refine blk_drew ?_ | refine blk_alloc ?_ _)); refine blk_put (cs := #[.int .i64 0, .int .i64 0]) ?_ 0 _ rfl; (with_reducible repeat (first | refine blk_drewN ?_ _ | refine blk_drew ?_ | refine blk_alloc ?_ _)); exact BK135.out⟩
                                have n3_ : Aside0 (Below w.heap.size w ((w43.setCell ⟨gb135, 0, none⟩ (.int .i64 ((rd_T33 l0 x35_2).f0))).setCell ⟨gb135, 1, none⟩ (.int .i64 ((rd_T33 l0 x35_2).f1)))) := ⟨by repeat (first | (with_reducible first | exact HB.out | apply below_alloc | apply pw_below_drewN | apply below_drew1 | refine below_set ?_ GE133.out | refine below_set ?_ GE135.out) | exact HB.out)⟩
                                (try clear HO_8)
                                (try clear BK133)
                                (try clear BK135)
                                (try clear HB)
                                generalize ((w43.setCell ⟨gb135, 0, none⟩ (.int .i64 ((rd_T33 l0 x35_2).f0))).setCell ⟨gb135, 1, none⟩ (.int .i64 ((rd_T33 l0 x35_2).f1))) = w46 at n0_ n1_ n2_ n3_ ⊢
                                have HO_8 := n0_
                                have BK133 := n1_
                                have BK135 := n2_
                                have HB := n3_
                                clear n0_ n1_ n2_ n3_
                                have n0_ := Aside0.mk (Kd.R_drew HO_8.out)
                                have n1_ := Aside0.mk (blk_drew BK133.out)
                                have n2_ := Aside0.mk (blk_drew BK135.out)
                                have n3_ := Aside0.mk (below_drew1 HB.out)
                                clear HO_8
                                clear BK133
                                clear BK135
                                clear HB
                                have HO_8 := n0_
                                have BK133 := n1_
                                have BK135 := n2_
                                have HB := n3_
                                clear n0_ n1_ n2_ n3_
                                refine start_ (n := 5) (S := fun w' => w'.cell? ⟨gb133, 0, none⟩ = some (.int .i64 x134000_2) ∧ w'.cell? ⟨gb133, 1, none⟩ = some (.int .i64 x134001_2) ∧ w'.cell? ⟨gb133, 2, none⟩ = some (.int .i64 x134002_2) ∧ w'.cell? ⟨gb133, 3, none⟩ = some (.int .i64 x134003_2) ∧ w'.cell? ⟨gb133, 4, none⟩ = some (.int .i64 x134004_2) ∧ w'.cell? ⟨gb133, 5, none⟩ = some (.int .i64 x134005_2) ∧ w'.cell? ⟨gb135, 0, none⟩ = some (.int .i64 ((rd_T33 l0 x35_2).f0)) ∧ w'.cell? ⟨gb135, 1, none⟩ = some (.int .i64 ((rd_T33 l0 x35_2).f1))) (ds := [4]) #[false, false, false, false, false] (by kernel_rfl) rfl rfl ⟨(blk_cell BK133.out 0).trans rfl, (blk_cell BK133.out 1).trans rfl, (blk_cell BK133.out 2).trans rfl, (blk_cell BK133.out 3).trans rfl, (blk_cell BK133.out 4).trans rfl, (blk_cell BK133.out 5).trans rfl, (blk_cell BK135.out 0).trans rfl, (blk_cell BK135.out 1).trans rfl⟩ (fun hHeld => ?_)
                                generalize w46.drew = w47 at HO_8 BK133 BK135 HB hHeld ⊢
                                refine take_ (i := 0) (N := some 40) (v := ?_) (a' := ?_) #[true, false, false, false, false] rfl rfl (by kernel_rfl) (fun _ _ _ h => h) (Or.inl ⟨by rfl, ?_⟩) hHeld ?_ ?_
                                rotate_left
                                · rintro w' ⟨s0, s1, s2, s3, s4, s5, s6, s7⟩
                                  go_simp
                                  with_reducible rfl
                                rotate_left
                                · simp only [Act.put, List.setIfInBounds_toArray, List.set_cons_zero, List.set_cons_succ, i64_w, i32_w]
                                  rfl
                                refine take_ (i := 1) (N := some 41) (v := ?_) (a' := ?_) #[true, true, false, false, false] rfl rfl (by kernel_rfl) (fun _ _ _ h => h) (Or.inl ⟨by rfl, ?_⟩) hHeld ?_ ?_
                                rotate_left
                                · rintro w' ⟨s0, s1, s2, s3, s4, s5, s6, s7⟩
                                  go_simp
                                  with_reducible rfl
                                rotate_left
                                · simp only [Act.put, List.setIfInBounds_toArray, List.set_cons_zero, List.set_cons_succ, i64_w, i32_w]
                                  rfl
                                refine one_ (i := 2) (N := some 42) #[true, true, true, false, false] rfl rfl (by kernel_rfl) (by decide) (fun K hK => ?_)
                                refine goes_ Try.func43 (by kernel_rfl) rfl #[.agg #[.int .i64 ((rd_T33 l0 x35_2).f0), .int .i64 ((rd_T33 l0 x35_2).f1)]] (by rfl) rfl rfl (by (try simp only [List.map_toArray, List.map_cons, List.map_nil]); first | done | rfl | (simp only [List.length_drop, List.length_take]; rfl)) ?_
                                with_reducible refine (agg_one.calls ((rd_T33 l0 x35_2).f0) ((rd_T33 l0 x35_2).f1) t136 t137 t138 t139 t140 t141 _ A17.out).mono ?_
                                rintro e w48 ⟨rfl, hb⟩
                                refine ⟨_, rfl, ?_⟩
                                have n0_ := Aside0.mk (Kd.R_below (by (with_reducible repeat (first | apply Kd.R_alloc | apply Kd.R_drewN | apply Kd.R_drew)); exact HO_8.out) hb)
                                have n1_ := Aside0.mk (blk_below (g := gb133) (o := .cells #[.int .i64 x134000_2, .int .i64 x134001_2, .int .i64 x134002_2, .int .i64 x134003_2, .int .i64 x134004_2, .int .i64 x134005_2] 50 (0, 0)) (by (with_reducible repeat (first | refine blk_drewN ?_ _ | refine blk_drew ?_ | refine blk_alloc ?_ _)); exact BK133.out) hb)
                                have n2_ := Aside0.mk (blk_below (g := gb135) (o := .cells #[.int .i64 ((rd_T33 l0 x35_2).f0), .int .i64 ((rd_T33 l0 x35_2).f1)] 33 (0, 0)) (by (with_reducible repeat (first | refine blk_drewN ?_ _ | refine blk_drew ?_ | refine blk_alloc ?_ _)); exact BK135.out) hb)
                                have n3_ := Aside0.mk (below_step (by repeat (first | (with_reducible first | exact HB.out | apply below_alloc | apply pw_below_drewN | apply below_drew1 | refine below_set ?_ GE133.out | refine below_set ?_ GE135.out) | exact HB.out)) hb)
                                clear HO_8
                                clear BK133
                                clear BK135
                                clear HB
                                have HO_8 := n0_
                                have BK133 := n1_
                                have BK135 := n2_
                                have HB := n3_
                                clear n0_ n1_ n2_ n3_
                                (try clear hb)
                                (try clear hb2)
                                (try clear hk)
                                (try clear hi)
                                refine hK.out _ _ ⟨(blk_cell BK133.out 0).trans rfl, (blk_cell BK133.out 1).trans rfl, (blk_cell BK133.out 2).trans rfl, (blk_cell BK133.out 3).trans rfl, (blk_cell BK133.out 4).trans rfl, (blk_cell BK133.out 5).trans rfl, (blk_cell BK135.out 0).trans rfl, (blk_cell BK135.out 1).trans rfl⟩ (fun hHeld => ?_)
                                clear hK K
                                refine norm_ (a' := ?_) ?_ ?_
                                rotate_left
                                · show Act.put _ (some 42) _ = _
                                  simp only [Act.put, List.setIfInBounds_toArray, List.set_cons_zero, List.set_cons_succ, i64_w, i32_w]
                                  rfl
                                refine one_ (i := 3) (N := some 43) #[true, true, true, true, false] rfl rfl (by kernel_rfl) (by decide) (fun K hK => ?_)
                                refine goes_ Try.func32 (by kernel_rfl) rfl #[.agg #[.int .i64 x134000_2, .int .i64 x134001_2, .int .i64 x134002_2, .int .i64 x134003_2, .int .i64 x134004_2, .int .i64 x134005_2], .agg #[.int .i64 t136, .int .i64 t137, .int .i64 t138, .int .i64 t139, .int .i64 t140, .int .i64 t141]] (by rfl) rfl rfl (by (try simp only [List.map_toArray, List.map_cons, List.map_nil]); first | done | rfl | (simp only [List.length_drop, List.length_take]; rfl)) ?_
                                with_reducible refine (agg_Join.calls x134000_2 x134001_2 x134002_2 x134003_2 x134004_2 x134005_2 t136 t137 t138 t139 t140 t141 t142 t143 t144 t145 t146 t147 _ A18.out).mono ?_
                                rintro e w49 ⟨rfl, hb⟩
                                refine ⟨_, rfl, ?_⟩
                                have n0_ := Aside0.mk (Kd.R_below (by (with_reducible repeat (first | apply Kd.R_alloc | apply Kd.R_drewN | apply Kd.R_drew)); exact HO_8.out) hb)
                                have n1_ := Aside0.mk (blk_below (g := gb133) (o := .cells #[.int .i64 x134000_2, .int .i64 x134001_2, .int .i64 x134002_2, .int .i64 x134003_2, .int .i64 x134004_2, .int .i64 x134005_2] 50 (0, 0)) (by (with_reducible repeat (first | refine blk_drewN ?_ _ | refine blk_drew ?_ | refine blk_alloc ?_ _)); exact BK133.out) hb)
                                have n2_ := Aside0.mk (blk_below (g := gb135) (o := .cells #[.int .i64 ((rd_T33 l0 x35_2).f0), .int .i64 ((rd_T33 l0 x35_2).f1)] 33 (0, 0)) (by (with_reducible repeat (first | refine blk_drewN ?_ _ | refine blk_drew ?_ | refine blk_alloc ?_ _)); exact BK135.out) hb)
                                have n3_ := Aside0.mk (below_step (by repeat (first | (with_reducible first | exact HB.out | apply below_alloc | apply pw_below_drewN | apply below_drew1 | refine below_set ?_ GE133.out | refine below_set ?_ GE135.out) | exact HB.out)) hb)
                                clear HO_8
                                clear BK133
                                clear BK135
                                clear HB
                                have HO_8 := n0_
                                have BK133 := n1_
                                have BK135 := n2_
                                have HB := n3_
                                clear n0_ n1_ n2_ n3_
                                (try clear hb)
                                (try clear hb2)
                                (try clear hk)
                                (try clear hi)
                                refine hK.out _ _ ⟨(blk_cell BK133.out 0).trans rfl, (blk_cell BK133.out 1).trans rfl, (blk_cell BK133.out 2).trans rfl, (blk_cell BK133.out 3).trans rfl, (blk_cell BK133.out 4).trans rfl, (blk_cell BK133.out 5).trans rfl, (blk_cell BK135.out 0).trans rfl, (blk_cell BK135.out 1).trans rfl⟩ (fun hHeld => ?_)
                                clear hK K
                                refine norm_ (a' := ?_) ?_ ?_
                                rotate_left
                                · show Act.put _ (some 43) _ = _
                                  simp only [Act.put, List.setIfInBounds_toArray, List.set_cons_zero, List.set_cons_succ, i64_w, i32_w]
                                  rfl
                                refine last_ (i := 4) (N := none) #[true, true, true, true, true] rfl rfl (by kernel_rfl) (by decide) (fun K hK => ?_)
                                have hs50 : w49.cell? ⟨gb133, 0, none⟩ = some (.int .i64 x134000_2) := (blk_cell BK133.out 0).trans rfl
                                have hfs50 := blk_frozen BK133.out 0
                                have hns50_1 := NB135_133.out
                                have hms50_1 := NB133_135.out
                                have hs51 : w49.cell? ⟨gb133, 1, none⟩ = some (.int .i64 x134001_2) := (blk_cell BK133.out 1).trans rfl
                                have hfs51 := blk_frozen BK133.out 1
                                have hns51_1 := NB135_133.out
                                have hms51_1 := NB133_135.out
                                have hs52 : w49.cell? ⟨gb133, 2, none⟩ = some (.int .i64 x134002_2) := (blk_cell BK133.out 2).trans rfl
                                have hfs52 := blk_frozen BK133.out 2
                                have hns52_1 := NB135_133.out
                                have hms52_1 := NB133_135.out
                                have hs53 : w49.cell? ⟨gb133, 3, none⟩ = some (.int .i64 x134003_2) := (blk_cell BK133.out 3).trans rfl
                                have hfs53 := blk_frozen BK133.out 3
                                have hns53_1 := NB135_133.out
                                have hms53_1 := NB133_135.out
                                have hs54 : w49.cell? ⟨gb133, 4, none⟩ = some (.int .i64 x134004_2) := (blk_cell BK133.out 4).trans rfl
                                have hfs54 := blk_frozen BK133.out 4
                                have hns54_1 := NB135_133.out
                                have hms54_1 := NB133_135.out
                                have hs55 : w49.cell? ⟨gb133, 5, none⟩ = some (.int .i64 x134005_2) := (blk_cell BK133.out 5).trans rfl
                                have hfs55 := blk_frozen BK133.out 5
                                have hns55_1 := NB135_133.out
                                have hms55_1 := NB133_135.out
                                refine skip_ (w1 := ?_) (by rfl) rfl ?_ ?_
                                rotate_left
                                · go_simp
                                  rfl
                                refine hK.out _ _ ?_
                                clear hK K
                                refine done_ (by kernel_rfl) ?_
                                try go_wp2
                                have n0_ : Aside0 (Kd.R k33 33 ((((((w49.setCell ⟨gb133, 0, none⟩ (.int .i64 t142)).setCell ⟨gb133, 1, none⟩ (.int .i64 t143)).setCell ⟨gb133, 2, none⟩ (.int .i64 t144)).setCell ⟨gb133, 3, none⟩ (.int .i64 t145)).setCell ⟨gb133, 4, none⟩ (.int .i64 t146)).setCell ⟨gb133, 5, none⟩ (.int .i64 t147)) w.heap.size (fun k_ => k_ ≠ gb135) u8 x8_2) := ⟨by (with_reducible repeat (first | apply Kd.R_alloc | apply Kd.R_drewN | apply Kd.R_drew)); exact Kd.R_mono (Kd.R_far (p := ⟨gb133, 5, none⟩) (Kd.R_far (p := ⟨gb133, 4, none⟩) (Kd.R_far (p := ⟨gb133, 3, none⟩) (Kd.R_far (p := ⟨gb133, 2, none⟩) (Kd.R_far (p := ⟨gb133, 1, none⟩) (Kd.R_far (p := ⟨gb133, 0, none⟩) (Kd.R_types HO_8.out BK133.out (by decide)) (fun _ hk => hk.2) (.int .i64 t142)) (fun _ hk => hk.2) (.int .i64 t143)) (fun _ hk => hk.2) (.int .i64 t144)) (fun _ hk => hk.2) (.int .i64 t145)) (fun _ hk => hk.2) (.int .i64 t146)) (fun _ hk => hk.2) (.int .i64 t147)) (fun _ hk => hk.1)⟩
                                have n1_ : Aside0 (((((((w49.setCell ⟨gb133, 0, none⟩ (.int .i64 t142)).setCell ⟨gb133, 1, none⟩ (.int .i64 t143)).setCell ⟨gb133, 2, none⟩ (.int .i64 t144)).setCell ⟨gb133, 3, none⟩ (.int .i64 t145)).setCell ⟨gb133, 4, none⟩ (.int .i64 t146)).setCell ⟨gb133, 5, none⟩ (.int .i64 t147)).heap[gb133]? = some (.cells #[.int .i64 t142, .int .i64 t143, .int .i64 t144, .int .i64 t145, .int .i64 t146, .int .i64 t147] 50 (0, 0))) := ⟨by (with_reducible repeat (first | refine blk_drewN ?_ _ | refine blk_drew ?_ | refine blk_alloc ?_ _)); refine blk_put (cs := #[.int .i64 t142, .int .i64 t143, .int .i64 t144, .int .i64 t145, .int .i64 t146, .int .i64 x134005_2]) ?_ 5 _ rfl; (with_reducible repeat (first | refine blk_drewN ?_ _ | refine blk_drew ?_ | refine blk_alloc ?_ _)); refine blk_put (cs := #[.int .i64 t142, .int .i64 t143, .int .i64 t144, .int .i64 t145, .int .i64 x134004_2, .int .i64 x134005_2]) ?_ 4 _ rfl; (with_reducible repeat (first | refine blk_drewN ?_ _ | refine blk_drew ?_ | refine blk_alloc ?_ _)); refine blk_put (cs := #[.int .i64 t142, .int .i64 t143, .int .i64 t144, .int .i64 x134003_2, .int .i64 x134004_2, .int .i64 x134005_2]) ?_ 3 _ rfl; (with_reducible repeat (first | refine blk_drewN ?_ _ | refine blk_drew ?_ | refine blk_alloc ?_ _)); refine blk_put (cs := #[.int .i64 t142, .int .i64 t143, .int .i64 x134002_2, .int .i64 x134003_2, .int .i64 x134004_2, .int .i64 x134005_2]) ?_ 2 _ rfl; (with_reducible repeat (first | refine blk_drewN ?_ _ | refine blk_drew ?_ | refine blk_alloc ?_ _)); refine blk_put (cs := #[.int .i64 t142, .int .i64 x134001_2, .int .i64 x134002_2, .int .i64 x134003_2, .int .i64 x134004_2, .int .i64 x134005_2]) ?_ 1 _ rfl; (with_reducible repeat (first | refine blk_drewN ?_ _ | refine blk_drew ?_ | refine blk_alloc ?_ _)); refine blk_put (cs := #[.int .i64 x134000_2, .int .i64 x134001_2, .int .i64 x134002_2, .int .i64 x134003_2, .int .i64 x134004_2, .int .i64 x134005_2]) ?_ 0 _ rfl; (with_reducible repeat (first | refine blk_drewN ?_ _ | refine blk_drew ?_ | refine blk_alloc ?_ _)); exact BK133.out⟩
                                have n2_ : Aside0 (((((((w49.setCell ⟨gb133, 0, none⟩ (.int .i64 t142)).setCell ⟨gb133, 1, none⟩ (.int .i64 t143)).setCell ⟨gb133, 2, none⟩ (.int .i64 t144)).setCell ⟨gb133, 3, none⟩ (.int .i64 t145)).setCell ⟨gb133, 4, none⟩ (.int .i64 t146)).setCell ⟨gb133, 5, none⟩ (.int .i64 t147)).heap[gb135]? = some (.cells #[.int .i64 ((rd_T33 l0 x35_2).f0), .int .i64 ((rd_T33 l0 x35_2).f1)] 33 (0, 0))) := ⟨by (with_reducible repeat (first | refine blk_drewN ?_ _ | refine blk_drew ?_ | refine blk_alloc ?_ _)); refine blk_far ?_ NB135_133.out _; (with_reducible repeat (first | refine blk_drewN ?_ _ | refine blk_drew ?_ | refine blk_alloc ?_ _)); refine blk_far ?_ NB135_133.out _; (with_reducible repeat (first | refine blk_drewN ?_ _ | refine blk_drew ?_ | refine blk_alloc ?_ _)); refine blk_far ?_ NB135_133.out _; (with_reducible repeat (first | refine blk_drewN ?_ _ | refine blk_drew ?_ | refine blk_alloc ?_ _)); refine blk_far ?_ NB135_133.out _; (with_reducible repeat (first | refine blk_drewN ?_ _ | refine blk_drew ?_ | refine blk_alloc ?_ _)); refine blk_far ?_ NB135_133.out _; (with_reducible repeat (first | refine blk_drewN ?_ _ | refine blk_drew ?_ | refine blk_alloc ?_ _)); refine blk_far ?_ NB135_133.out _; (with_reducible repeat (first | refine blk_drewN ?_ _ | refine blk_drew ?_ | refine blk_alloc ?_ _)); exact BK135.out⟩
                                have n3_ : Aside0 (Below w.heap.size w ((((((w49.setCell ⟨gb133, 0, none⟩ (.int .i64 t142)).setCell ⟨gb133, 1, none⟩ (.int .i64 t143)).setCell ⟨gb133, 2, none⟩ (.int .i64 t144)).setCell ⟨gb133, 3, none⟩ (.int .i64 t145)).setCell ⟨gb133, 4, none⟩ (.int .i64 t146)).setCell ⟨gb133, 5, none⟩ (.int .i64 t147))) := ⟨by repeat (first | (with_reducible first | exact HB.out | apply below_alloc | apply pw_below_drewN | apply below_drew1 | refine below_set ?_ GE133.out | refine below_set ?_ GE135.out) | exact HB.out)⟩
                                (try clear HO_8)
                                (try clear BK133)
                                (try clear BK135)
                                (try clear HB)
                                generalize ((((((w49.setCell ⟨gb133, 0, none⟩ (.int .i64 t142)).setCell ⟨gb133, 1, none⟩ (.int .i64 t143)).setCell ⟨gb133, 2, none⟩ (.int .i64 t144)).setCell ⟨gb133, 3, none⟩ (.int .i64 t145)).setCell ⟨gb133, 4, none⟩ (.int .i64 t146)).setCell ⟨gb133, 5, none⟩ (.int .i64 t147)) = w56 at n0_ n1_ n2_ n3_ ⊢
                                have HO_8 := n0_
                                have BK133 := n1_
                                have BK135 := n2_
                                have HB := n3_
                                clear n0_ n1_ n2_ n3_
                                have n0_ := Aside0.mk (Kd.R_drew HO_8.out)
                                have n1_ := Aside0.mk (blk_drew BK133.out)
                                have n2_ := Aside0.mk (blk_drew BK135.out)
                                have n3_ := Aside0.mk (below_drew1 HB.out)
                                clear HO_8
                                clear BK133
                                clear BK135
                                clear HB
                                have HO_8 := n0_
                                have BK133 := n1_
                                have BK135 := n2_
                                have HB := n3_
                                clear n0_ n1_ n2_ n3_
                                refine start_ (n := 12) (S := fun w' => w'.cell? ⟨gb135, 0, none⟩ = some (.int .i64 ((rd_T33 l0 x35_2).f0)) ∧ w'.cell? ⟨gb135, 1, none⟩ = some (.int .i64 ((rd_T33 l0 x35_2).f1))) (ds := []) #[false, false, false, false, false, false, false, false, false, false, false, false] (by kernel_rfl) rfl rfl ⟨(blk_cell BK135.out 0).trans rfl, (blk_cell BK135.out 1).trans rfl⟩ (fun hHeld => ?_); refine with_tabW agg_Rollup.tab9 agg_Rollup.bits9 (fun HT_ HW_ => ?_)
                                generalize w56.drew = w57 at HO_8 BK133 BK135 HB hHeld ⊢
                                refine pure_ (i := 0) (N := some 44) (v := ?_) (a' := ?_) #[true, false, false, false, false, false, false, false, false, false, false, false] rfl rfl (any_of HT_.out (by kernel_rfl)) (fun _ _ _ h => h) (Or.inl ⟨by rfl, ?_⟩) ?_ ?_
                                rotate_left
                                · intro w'
                                  go_simp
                                  with_reducible rfl
                                rotate_left
                                · simp only [Act.put, List.setIfInBounds_toArray, List.set_cons_zero, List.set_cons_succ, i64_w, i32_w]
                                  rfl
                                refine pure_ (i := 2) (N := some 46) (v := ?_) (a' := ?_) #[true, false, true, false, false, false, false, false, false, false, false, false] rfl rfl (any_of HT_.out (by kernel_rfl)) (fun _ _ _ h => h) (Or.inl ⟨by rfl, ?_⟩) ?_ ?_
                                rotate_left
                                · intro w'
                                  go_simp
                                  with_reducible rfl
                                rotate_left
                                · simp only [Act.put, List.setIfInBounds_toArray, List.set_cons_zero, List.set_cons_succ, i64_w, i32_w]
                                  rfl
                                refine pure_ (i := 4) (N := some 48) (v := ?_) (a' := ?_) #[true, false, true, false, true, false, false, false, false, false, false, false] rfl rfl (any_of HT_.out (by kernel_rfl)) (fun _ _ _ h => h) (Or.inl ⟨by rfl, ?_⟩) ?_ ?_
                                rotate_left
                                · intro w'
                                  go_simp
                                  with_reducible rfl
                                rotate_left
                                · simp only [Act.put, List.setIfInBounds_toArray, List.set_cons_zero, List.set_cons_succ, i64_w, i32_w]
                                  rfl
                                refine pure_ (i := 6) (N := some 50) (v := ?_) (a' := ?_) #[true, false, true, false, true, false, true, false, false, false, false, false] rfl rfl (any_of HT_.out (by kernel_rfl)) (fun _ _ _ h => h) (Or.inl ⟨by rfl, ?_⟩) ?_ ?_
                                rotate_left
                                · intro w'
                                  go_simp
                                  with_reducible rfl
                                rotate_left
                                · simp only [Act.put, List.setIfInBounds_toArray, List.set_cons_zero, List.set_cons_succ, i64_w, i32_w]
                                  rfl
                                refine pure_ (i := 8) (N := some 52) (v := ?_) (a' := ?_) #[true, false, true, false, true, false, true, false, true, false, false, false] rfl rfl (any_of HT_.out (by kernel_rfl)) (fun _ _ _ h => h) (Or.inl ⟨by rfl, ?_⟩) ?_ ?_
                                rotate_left
                                · intro w'
                                  go_simp
                                  with_reducible rfl
                                rotate_left
                                · simp only [Act.put, List.setIfInBounds_toArray, List.set_cons_zero, List.set_cons_succ, i64_w, i32_w]
                                  rfl
                                refine take_ (i := 1) (N := some 45) (v := ?_) (a' := ?_) #[true, true, true, false, true, false, true, false, true, false, false, false] rfl rfl (take_ofW HT_.out HW_.out (by kernel_rfl)) (fun _ _ _ h => h) (Or.inl ⟨by rfl, ?_⟩) hHeld ?_ ?_
                                rotate_left
                                · rintro w' ⟨s0, s1⟩
                                  go_simp
                                  with_reducible rfl
                                rotate_left
                                · simp only [Act.put, List.setIfInBounds_toArray, List.set_cons_zero, List.set_cons_succ, i64_w, i32_w]
                                  rfl
                                refine take_ (i := 3) (N := some 47) (v := ?_) (a' := ?_) #[true, true, true, true, true, false, true, false, true, false, false, false] rfl rfl (take_ofW HT_.out HW_.out (by kernel_rfl)) (fun _ _ _ h => h) (Or.inl ⟨by rfl, ?_⟩) hHeld ?_ ?_
                                rotate_left
                                · rintro w' ⟨s0, s1⟩
                                  go_simp
                                  with_reducible rfl
                                rotate_left
                                · simp only [Act.put, List.setIfInBounds_toArray, List.set_cons_zero, List.set_cons_succ, i64_w, i32_w]
                                  rfl
                                refine pure_ (i := 5) (N := some 49) (v := ?_) (a' := ?_) #[true, true, true, true, true, true, true, false, true, false, false, false] rfl rfl (any_of HT_.out (by kernel_rfl)) (fun _ _ _ h => h) (Or.inl ⟨by rfl, ?_⟩) ?_ ?_
                                rotate_left
                                · intro w'
                                  go_simp
                                  with_reducible rfl
                                rotate_left
                                · simp only [Act.put, List.setIfInBounds_toArray, List.set_cons_zero, List.set_cons_succ, i64_w, i32_w]
                                  rfl
                                refine pure_ (i := 7) (N := some 51) (v := ?_) (a' := ?_) #[true, true, true, true, true, true, true, true, true, false, false, false] rfl rfl (any_of HT_.out (by kernel_rfl)) (fun _ _ _ h => h) (Or.inl ⟨by rfl, ?_⟩) ?_ ?_
                                rotate_left
                                · intro w'
                                  go_simp
                                  with_reducible rfl
                                rotate_left
                                · simp only [Act.put, List.setIfInBounds_toArray, List.set_cons_zero, List.set_cons_succ, i64_w, i32_w]
                                  rfl
                                refine pure_ (i := 9) (N := some 53) (v := ?_) (a' := ?_) #[true, true, true, true, true, true, true, true, true, true, false, false] rfl rfl (any_of HT_.out (by kernel_rfl)) (fun _ _ _ h => h) (Or.inl ⟨by rfl, ?_⟩) ?_ ?_
                                rotate_left
                                · intro w'
                                  go_simp
                                  with_reducible rfl
                                rotate_left
                                · simp only [Act.put, List.setIfInBounds_toArray, List.set_cons_zero, List.set_cons_succ, i64_w, i32_w]
                                  rfl
                                refine pure_ (i := 10) (N := some 54) (v := ?_) (a' := ?_) #[true, true, true, true, true, true, true, true, true, true, true, false] rfl rfl (any_of HT_.out (by kernel_rfl)) (fun _ _ _ h => h) (Or.inl ⟨by rfl, ?_⟩) ?_ ?_
                                rotate_left
                                · intro w'
                                  go_simp
                                  with_reducible rfl
                                rotate_left
                                · simp only [Act.put, List.setIfInBounds_toArray, List.set_cons_zero, List.set_cons_succ, i64_w, i32_w]
                                  rfl
                                refine pure_ (i := 11) (N := some 12) (v := ?_) (a' := ?_) #[true, true, true, true, true, true, true, true, true, true, true, true] rfl rfl (any_of HT_.out (by kernel_rfl)) (fun _ _ _ h => h) (Or.inl ⟨by rfl, ?_⟩) ?_ ?_
                                rotate_left
                                · intro w'
                                  go_simp
                                  with_reducible rfl
                                rotate_left
                                · simp only [Act.put, List.setIfInBounds_toArray, List.set_cons_zero, List.set_cons_succ, i64_w, i32_w]
                                  rfl
                                refine done_ (done_of HT_.out (by kernel_rfl)) ?_
                                have p148 : 0 ≤ ((ji21) : Int) := of_decide_eq_true (by first | (with_reducible assumption) | assumption)
                                have q148 : (ji21) < (l0.length : Int) := of_decide_eq_true (by first | (with_reducible assumption) | assumption)
                                obtain ⟨ad148, e148, hx148_0, hx148_1⟩ := at_T33 HR0.out (ji21) p148 q148
                                obtain rfl : ad134 = ad148 := (by injection e148)
                                replace hx148_0 := (HB.out.cell (World.block_lt_of_cell? w _ hx148_0)).trans hx148_0
                                replace hx148_1 := (HB.out.cell (World.block_lt_of_cell? w _ hx148_1)).trans hx148_1
                                replace p148 := eq_true p148
                                replace q148 := eq_true q148
                                have hcz58_0 : w57.cell? ⟨gb133, 0, none⟩ = some (.int .i64 t142) := (blk_cell BK133.out 0).trans rfl
                                have hcz58_1 : w57.cell? ⟨gb133, 1, none⟩ = some (.int .i64 t143) := (blk_cell BK133.out 1).trans rfl
                                have hcz58_2 : w57.cell? ⟨gb133, 2, none⟩ = some (.int .i64 t144) := (blk_cell BK133.out 2).trans rfl
                                have hcz58_3 : w57.cell? ⟨gb133, 3, none⟩ = some (.int .i64 t145) := (blk_cell BK133.out 3).trans rfl
                                have hcz58_4 : w57.cell? ⟨gb133, 4, none⟩ = some (.int .i64 t146) := (blk_cell BK133.out 4).trans rfl
                                have hcz58_5 : w57.cell? ⟨gb133, 5, none⟩ = some (.int .i64 t147) := (blk_cell BK133.out 5).trans rfl
                                have hfz58_0 := blk_frozen BK133.out 0
                                have hfz58_1 := blk_frozen BK133.out 1
                                have hfz58_2 := blk_frozen BK133.out 2
                                have hfz58_3 := blk_frozen BK133.out 3
                                have hfz58_4 := blk_frozen BK133.out 4
                                have hfz58_5 := blk_frozen BK133.out 5
                                try go_wp2_with (first | (go_at_call 49; (with_reducible refine (agg_told_fields.calls t142 t143 t144 t145 t146 t147 t149 t150 t151 t152 t153 t154 _ A39.out).mono ?_); rintro e w59 ⟨rfl, hb⟩; have n0_ := Aside0.mk (Kd.R_below (by (with_reducible repeat (first | apply Kd.R_alloc | apply Kd.R_drewN | apply Kd.R_drew)); exact HO_8.out) hb); have n1_ := Aside0.mk (blk_below (g := gb133) (o := .cells #[.int .i64 t142, .int .i64 t143, .int .i64 t144, .int .i64 t145, .int .i64 t146, .int .i64 t147] 50 (0, 0)) (by (with_reducible repeat (first | refine blk_drewN ?_ _ | refine blk_drew ?_ | refine blk_alloc ?_ _)); exact BK133.out) hb); have n2_ := Aside0.mk (blk_below (g := gb135) (o := .cells #[.int .i64 ((rd_T33 l0 x35_2).f0), .int .i64 ((rd_T33 l0 x35_2).f1)] 33 (0, 0)) (by (with_reducible repeat (first | refine blk_drewN ?_ _ | refine blk_drew ?_ | refine blk_alloc ?_ _)); exact BK135.out) hb); have n3_ := Aside0.mk (below_step (by repeat (first | (with_reducible first | exact HB.out | apply below_alloc | apply pw_below_drewN | apply below_drew1 | refine below_set ?_ GE133.out | refine below_set ?_ GE135.out) | exact HB.out)) hb); clear HO_8; clear BK133; clear BK135; clear HB; have HO_8 := n0_; have BK133 := n1_; have BK135 := n2_; have HB := n3_; clear n0_ n1_ n2_ n3_; (try clear hb); (try clear hb2); (try clear hk); (try clear hi)) | ((with_reducible refine gate_builtin (b := .append) (xs := #[.tmp 74, .tmp 81]) rfl ?_); at_builtin; refine Kd.R_append k33 (w0 := w) w.heap.size rfl (.tmp 74) (.tmp 81) 30 33 (.agg #[(.int .i64 0), (.int .i64 0)]) 16 rfl Try.underlying30 info33 rfl (by decide) (by omega) u8 x8_2 (⟨wrap64 (((rd_T33 l0 x35_2).f0) - (Int.tmod (wrap64 ((Int.tmod ((rd_T33 l0 x35_2).f0) a1) + a1)) a1)), rd [t149, t150, t151, t152, t153, t154] a2⟩ : S33) [.int .i64 (wrap64 (((rd_T33 l0 x35_2).f0) - (Int.tmod (wrap64 ((Int.tmod ((rd_T33 l0 x35_2).f0) a1) + a1)) a1))), .int .i64 (rd [t149, t150, t151, t152, t153, t154] a2)] (fun k_ => k_ ≠ gb135) (fun _ => False) rfl rfl ?aP (fun _ hk => hk.elim) ?aF ?aO ?aB ?aS ?aL ?_; (case aP => exact k33_mkM _ _ _ (⟨wrap64 (((rd_T33 l0 x35_2).f0) - (Int.tmod (wrap64 ((Int.tmod ((rd_T33 l0 x35_2).f0) a1) + a1)) a1)), rd [t149, t150, t151, t152, t153, t154] a2⟩ : S33)); (case aB => exact (by repeat (first | (with_reducible first | exact HB.out | apply below_alloc | apply pw_below_drewN | apply below_drew1 | refine below_set ?_ GE133.out | refine below_set ?_ GE135.out) | exact HB.out))); (case aF => exact (fun k_ hk => Kd.freshB (g := gb135) (o := .cells #[.int .i64 ((rd_T33 l0 x35_2).f0), .int .i64 ((rd_T33 l0 x35_2).f1)] 33 (0, 0)) (by (with_reducible repeat (first | refine blk_drewN ?_ _ | refine blk_drew ?_ | refine blk_alloc ?_ _)); exact BK135.out) k_ hk)); (case aO => exact (by (with_reducible repeat (first | apply Kd.R_alloc | apply Kd.R_drewN | apply Kd.R_drew)); exact HO_8.out)); (case aS => exact (below_size (by repeat (first | (with_reducible first | exact HB.out | apply below_alloc | apply pw_below_drewN | apply below_drew1 | refine below_set ?_ GE133.out | refine below_set ?_ GE135.out) | exact HB.out)))); (case aL => have := LMc42.out; omega); intro v156 w60 ho hb hg hat; rw [← Ny155.out] at ho; have n0_ := Aside0.mk (blk_grown (g := gb133) (o := .cells #[.int .i64 t142, .int .i64 t143, .int .i64 t144, .int .i64 t145, .int .i64 t146, .int .i64 t147] 50 (0, 0)) (by (with_reducible repeat (first | refine blk_drewN ?_ _ | refine blk_drew ?_ | refine blk_alloc ?_ _)); exact BK133.out) hg (Kd.R_ne HO_8.out BK133.out (by decide))); have n1_ := Aside0.mk (blk_grown (g := gb135) (o := .cells #[.int .i64 ((rd_T33 l0 x35_2).f0), .int .i64 ((rd_T33 l0 x35_2).f1)] 33 (0, 0)) (by (with_reducible repeat (first | refine blk_drewN ?_ _ | refine blk_drew ?_ | refine blk_alloc ?_ _)); exact BK135.out) hg (Kd.R_away HO_8.out (fun _ hk => hk))); have n2_ := Aside0.mk (hb); have n3_ := Aside0.mk (ho); clear BK133; clear BK135; clear HB; clear HO_8; have BK133 := n0_; have BK135 := n1_; have HB := n2_; have HO157 := n3_; clear n0_ n1_ n2_ n3_; clear ho hb hg hat; have hcz61_0 : w60.cell? ⟨gb133, 0, none⟩ = some (.int .i64 t142) := (blk_cell BK133.out 0).trans rfl; have hcz61_1 : w60.cell? ⟨gb133, 1, none⟩ = some (.int .i64 t143) := (blk_cell BK133.out 1).trans rfl; have hcz61_2 : w60.cell? ⟨gb133, 2, none⟩ = some (.int .i64 t144) := (blk_cell BK133.out 2).trans rfl; have hcz61_3 : w60.cell? ⟨gb133, 3, none⟩ = some (.int .i64 t145) := (blk_cell BK133.out 3).trans rfl; have hcz61_4 : w60.cell? ⟨gb133, 4, none⟩ = some (.int .i64 t146) := (blk_cell BK133.out 4).trans rfl; have hcz61_5 : w60.cell? ⟨gb133, 5, none⟩ = some (.int .i64 t147) := (blk_cell BK133.out 5).trans rfl; have hfz61_0 := blk_frozen BK133.out 0; have hfz61_1 := blk_frozen BK133.out 1; have hfz61_2 := blk_frozen BK133.out 2; have hfz61_3 := blk_frozen BK133.out 3; have hfz61_4 := blk_frozen BK133.out 4; have hfz61_5 := blk_frozen BK133.out 5))
                                go_roundg k2
                                case measure => have := HJ3.out; have := HK2.out; omega
                                case rel => exact ⟨(y155), (ji21), (0), (0), (0), (0), (0), (0), (by first | rfl | (simp; done) | (simp only [← hji21] <;> (first | rfl | simp)) | (simp [*]; done) | (simp <;> grind)), (by first | exact H' | (simp only [hji21]; exact H')), ⟨by have := HJ3.out; have := HK2.out; omega⟩, ⟨by (with_reducible repeat (first | apply Kd.R_alloc | apply Kd.R_drewN | apply Kd.R_drew)); exact Kd.R_mono (Kd.R_far (p := ⟨gb133, 5, none⟩) (Kd.R_far (p := ⟨gb133, 4, none⟩) (Kd.R_far (p := ⟨gb133, 3, none⟩) (Kd.R_far (p := ⟨gb133, 2, none⟩) (Kd.R_far (p := ⟨gb133, 1, none⟩) (Kd.R_far (p := ⟨gb133, 0, none⟩) (Kd.R_types HO157.out BK133.out (by decide)) (fun _ hk => hk.2) (.int .i64 0)) (fun _ hk => hk.2) (.int .i64 0)) (fun _ hk => hk.2) (.int .i64 0)) (fun _ hk => hk.2) (.int .i64 0)) (fun _ hk => hk.2) (.int .i64 0)) (fun _ hk => hk.2) (.int .i64 0)) (fun _ hk => trivial)⟩, ⟨by (with_reducible repeat (first | refine blk_drewN ?_ _ | refine blk_drew ?_ | refine blk_alloc ?_ _)); refine blk_put (cs := #[.int .i64 0, .int .i64 0, .int .i64 0, .int .i64 0, .int .i64 0, .int .i64 t147]) ?_ 5 _ rfl; (with_reducible repeat (first | refine blk_drewN ?_ _ | refine blk_drew ?_ | refine blk_alloc ?_ _)); refine blk_put (cs := #[.int .i64 0, .int .i64 0, .int .i64 0, .int .i64 0, .int .i64 t146, .int .i64 t147]) ?_ 4 _ rfl; (with_reducible repeat (first | refine blk_drewN ?_ _ | refine blk_drew ?_ | refine blk_alloc ?_ _)); refine blk_put (cs := #[.int .i64 0, .int .i64 0, .int .i64 0, .int .i64 t145, .int .i64 t146, .int .i64 t147]) ?_ 3 _ rfl; (with_reducible repeat (first | refine blk_drewN ?_ _ | refine blk_drew ?_ | refine blk_alloc ?_ _)); refine blk_put (cs := #[.int .i64 0, .int .i64 0, .int .i64 t144, .int .i64 t145, .int .i64 t146, .int .i64 t147]) ?_ 2 _ rfl; (with_reducible repeat (first | refine blk_drewN ?_ _ | refine blk_drew ?_ | refine blk_alloc ?_ _)); refine blk_put (cs := #[.int .i64 0, .int .i64 t143, .int .i64 t144, .int .i64 t145, .int .i64 t146, .int .i64 t147]) ?_ 1 _ rfl; (with_reducible repeat (first | refine blk_drewN ?_ _ | refine blk_drew ?_ | refine blk_alloc ?_ _)); refine blk_put (cs := #[.int .i64 t142, .int .i64 t143, .int .i64 t144, .int .i64 t145, .int .i64 t146, .int .i64 t147]) ?_ 0 _ rfl; (with_reducible repeat (first | refine blk_drewN ?_ _ | refine blk_drew ?_ | refine blk_alloc ?_ _)); exact BK133.out⟩, ⟨by repeat (first | (with_reducible first | exact HB.out | apply below_alloc | apply pw_below_drewN | apply below_drew1 | refine below_set ?_ GE133.out | refine below_set ?_ GE135.out) | exact HB.out)⟩⟩
                              · rw [if_neg c42] at H
                                exact absurd H (by simp)
                            · rw [if_neg c41] at H
                              exact absurd H (by simp)
                          · rw [if_neg c40] at H
                            exact absurd H (by simp)
                      · rw [if_neg c22] at H
                        exact absurd H (by simp)
                    · rw [if_neg c20] at H
                      have c20b0 : decide ((wrap64 (x35_2 + 1)) < (l0.length : Int)) = false := decide_eq_false c20
                      clear c20
                      replace H := Option.bind_eq_some_iff.mp H
                      obtain ⟨⟨t158, t159, t160, t161, t162, t163⟩, A620, H⟩ := H
                      replace H : (if 0 ≤ a2 then (if a2 < 6 then (if x8_2.length < 8796093022208 then (agg_Rollup.l0 k2 l0 a1 a2 (x8_2 ++ [(⟨wrap64 (((rd_T33 l0 x35_2).f0) - (Int.tmod (wrap64 ((Int.tmod ((rd_T33 l0 x35_2).f0) a1) + a1)) a1)), rd [t158, t159, t160, t161, t162, t163] a2⟩ : S33)]) l0 (l0.length : Int) (wrap64 (x35_2 + 1)) 0 0 0 0 0 0) else (none)) else (none)) else (none)) = some (r1, r2) := H
                      have A62 := Aside0.mk A620
                      clear A620
                      by_cases c63 : 0 ≤ a2
                      · rw [if_pos c63] at H
                        have c63b0 : decide (0 ≤ a2) = true := decide_eq_true c63
                        clear c63
                        by_cases c64 : a2 < 6
                        · rw [if_pos c64] at H
                          have c64b0 : decide (a2 < 6) = true := decide_eq_true c64
                          clear c64
                          by_cases c65 : x8_2.length < 8796093022208
                          · rw [if_pos c65] at H
                            have LMc65 := Aside0.mk c65
                            clear c65
                            obtain ⟨y164, hy164⟩ : ∃ y_ : List (S33), y_ = (x8_2 ++ [(⟨wrap64 (((rd_T33 l0 x35_2).f0) - (Int.tmod (wrap64 ((Int.tmod ((rd_T33 l0 x35_2).f0) a1) + a1)) a1)), rd [t158, t159, t160, t161, t162, t163] a2⟩ : S33)]) := ⟨_, rfl⟩
                            replace H : (agg_Rollup.l0 k2 l0 a1 a2 y164 l0 (l0.length : Int) (wrap64 (x35_2 + 1)) 0 0 0 0 0 0) = some (r1, r2) := by first | (rw [hy164]; with_reducible exact H) | (have H2_ := (Option.bind_some _ _).symm.trans H; rw [hy164]; with_reducible exact H2_) | (have H2_ := (Option.bind_some _ _).symm.trans H; with_reducible exact H2_) | with_reducible exact H | (rw [hy164]; exact H) | exact H
                            have Ny164 := Aside0.mk hy164
                            clear hy164
                            have H' := Aside0.mk H
                            clear H
                            have p134 : 0 ≤ (x35_2 : Int) := of_decide_eq_true (by first | (with_reducible assumption) | assumption)
                            have q134 : x35_2 < (l0.length : Int) := of_decide_eq_true (by first | (with_reducible assumption) | assumption)
                            obtain ⟨ad134, e134, hx134_0, hx134_1⟩ := at_T33 HR0.out x35_2 p134 q134
                            cases e134
                            replace hx134_0 := (HB.out.cell (World.block_lt_of_cell? w _ hx134_0)).trans hx134_0
                            replace hx134_1 := (HB.out.cell (World.block_lt_of_cell? w _ hx134_1)).trans hx134_1
                            replace p134 := eq_true p134
                            replace q134 := eq_true q134
                            try go_wp2_with (first | ((with_reducible refine gate_dst (N := 11) rfl ?_); refine box_event ?hg (N := 11) ?hd (cs := #[.int .i64 0, .int .i64 0]) (t := 33) ?hr ?_; (case hd => rfl); (case hg => rfl); (case hr => first | (go_simp; done) | (go_simp; rfl)); intro gb135 hg w66 hbox hb; have n0_ := Aside0.mk (Kd.R_below (Kd.R_elderB (by (with_reducible repeat (first | apply Kd.R_alloc | apply Kd.R_drewN | apply Kd.R_drew)); exact HO_8.out) gb135 (Nat.le_of_eq hg.symm)) hb); have n1_ := Aside0.mk (blk_below (g := gb133) (o := .cells #[.int .i64 x134000_2, .int .i64 x134001_2, .int .i64 x134002_2, .int .i64 x134003_2, .int .i64 x134004_2, .int .i64 x134005_2] 50 (0, 0)) (by (with_reducible repeat (first | refine blk_drewN ?_ _ | refine blk_drew ?_ | refine blk_alloc ?_ _)); exact BK133.out) hb); have n2_ := Aside0.mk (below_step (by repeat (first | (with_reducible first | exact HB.out | apply below_alloc | apply pw_below_drewN | apply below_drew1 | refine below_set ?_ GE133.out) | exact HB.out)) hb); have n3_ := Aside0.mk (hbox); have n4_ := Aside0.mk ((by rw [hg]; exact (below_size (by repeat (first | (with_reducible first | exact HB.out | apply below_alloc | apply pw_below_drewN | apply below_drew1 | refine below_set ?_ GE133.out) | exact HB.out))) : w.heap.size ≤ gb135)); have n5_ := Aside0.mk ((by rw [hg]; exact (below_size (by repeat (first | (with_reducible first | exact HB.out | apply below_alloc | apply pw_below_drewN | apply below_drew1 | refine below_set ?_ GE133.out) | exact HB.out))) : w.heap.size ≤ gb135)); have n6_ := Aside0.mk ((by rw [hg]; exact Nat.ne_of_lt (blk_lt (g := gb133) (o := .cells #[.int .i64 x134000_2, .int .i64 x134001_2, .int .i64 x134002_2, .int .i64 x134003_2, .int .i64 x134004_2, .int .i64 x134005_2] 50 (0, 0)) (by (with_reducible repeat (first | refine blk_drewN ?_ _ | refine blk_drew ?_ | refine blk_alloc ?_ _)); exact BK133.out)) : gb133 ≠ gb135)); have n7_ := Aside0.mk ((by rw [hg]; exact Nat.ne_of_gt (blk_lt (g := gb133) (o := .cells #[.int .i64 x134000_2, .int .i64 x134001_2, .int .i64 x134002_2, .int .i64 x134003_2, .int .i64 x134004_2, .int .i64 x134005_2] 50 (0, 0)) (by (with_reducible repeat (first | refine blk_drewN ?_ _ | refine blk_drew ?_ | refine blk_alloc ?_ _)); exact BK133.out)) : gb135 ≠ gb133)); clear HO_8; clear BK133; clear HB; have HO_8 := n0_; have BK133 := n1_; have HB := n2_; have BK135 := n3_; have GW135 := n4_; have GE135 := n5_; have NB133_135 := n6_; have NB135_133 := n7_; clear n0_ n1_ n2_ n3_ n4_ n5_ n6_ n7_; clear hb hbox hg; have hnb67 := NB135_133.out; have hnc67 := NB133_135.out; have hcz68_0 : w66.cell? ⟨gb135, 0, none⟩ = some (.int .i64 0) := (blk_cell BK135.out 0).trans rfl; have hcz68_1 : w66.cell? ⟨gb135, 1, none⟩ = some (.int .i64 0) := (blk_cell BK135.out 1).trans rfl; have hfz68_0 := blk_frozen BK135.out 0; have hfz68_1 := blk_frozen BK135.out 1))
                            have n0_ : Aside0 (Kd.R k33 33 ((w66.setCell ⟨gb135, 0, none⟩ (.int .i64 ((rd_T33 l0 x35_2).f0))).setCell ⟨gb135, 1, none⟩ (.int .i64 ((rd_T33 l0 x35_2).f1))) w.heap.size (fun k_ => k_ ≠ gb135) u8 x8_2) := ⟨by (with_reducible repeat (first | apply Kd.R_alloc | apply Kd.R_drewN | apply Kd.R_drew)); exact Kd.R_mono (Kd.R_far (p := ⟨gb135, 1, none⟩) (Kd.R_far (p := ⟨gb135, 0, none⟩) (Kd.R_mono HO_8.out (fun k_ hk => (⟨hk, hk.2⟩ : _ ∧ k_ ≠ gb135))) (fun _ hk => hk.2) (.int .i64 ((rd_T33 l0 x35_2).f0))) (fun _ hk => hk.2) (.int .i64 ((rd_T33 l0 x35_2).f1))) (fun _ hk => hk.1.2)⟩
                            have n1_ : Aside0 (((w66.setCell ⟨gb135, 0, none⟩ (.int .i64 ((rd_T33 l0 x35_2).f0))).setCell ⟨gb135, 1, none⟩ (.int .i64 ((rd_T33 l0 x35_2).f1))).heap[gb133]? = some (.cells #[.int .i64 x134000_2, .int .i64 x134001_2, .int .i64 x134002_2, .int .i64 x134003_2, .int .i64 x134004_2, .int .i64 x134005_2] 50 (0, 0))) := ⟨by (with_reducible repeat (first | refine blk_drewN ?_ _ | refine blk_drew ?_ | refine blk_alloc ?_ _)); refine blk_far ?_ NB133_135.out _; (with_reducible repeat (first | refine blk_drewN ?_ _ | refine blk_drew ?_ | refine blk_alloc ?_ _)); refine blk_far ?_ NB133_135.out _; (with_reducible repeat (first | refine blk_drewN ?_ _ | refine blk_drew ?_ | refine blk_alloc ?_ _)); exact BK133.out⟩
                            have n2_ : Aside0 (((w66.setCell ⟨gb135, 0, none⟩ (.int .i64 ((rd_T33 l0 x35_2).f0))).setCell ⟨gb135, 1, none⟩ (.int .i64 ((rd_T33 l0 x35_2).f1))).heap[gb135]? = some (.cells #[.int .i64 ((rd_T33 l0 x35_2).f0), .int .i64 ((rd_T33 l0 x35_2).f1)] 33 (0, 0))) := ⟨by (with_reducible repeat (first | refine blk_drewN ?_ _ | refine blk_drew ?_ | refine blk_alloc ?_ _)); refine blk_put (cs := #[.int .i64 ((rd_T33 l0 x35_2).f0), .int .i64 0]) ?_ 1 _ rfl; (with_reducible repeat (first | refine blk_drewN ?_ _ | refine blk_drew ?_ | refine blk_alloc ?_ _)); refine blk_put (cs := #[.int .i64 0, .int .i64 0]) ?_ 0 _ rfl; (with_reducible repeat (first | refine blk_drewN ?_ _ | refine blk_drew ?_ | refine blk_alloc ?_ _)); exact BK135.out⟩
                            have n3_ : Aside0 (Below w.heap.size w ((w66.setCell ⟨gb135, 0, none⟩ (.int .i64 ((rd_T33 l0 x35_2).f0))).setCell ⟨gb135, 1, none⟩ (.int .i64 ((rd_T33 l0 x35_2).f1)))) := ⟨by repeat (first | (with_reducible first | exact HB.out | apply below_alloc | apply pw_below_drewN | apply below_drew1 | refine below_set ?_ GE133.out | refine below_set ?_ GE135.out) | exact HB.out)⟩
                            (try clear HO_8)
                            (try clear BK133)
                            (try clear BK135)
                            (try clear HB)
                            generalize ((w66.setCell ⟨gb135, 0, none⟩ (.int .i64 ((rd_T33 l0 x35_2).f0))).setCell ⟨gb135, 1, none⟩ (.int .i64 ((rd_T33 l0 x35_2).f1))) = w69 at n0_ n1_ n2_ n3_ ⊢
                            have HO_8 := n0_
                            have BK133 := n1_
                            have BK135 := n2_
                            have HB := n3_
                            clear n0_ n1_ n2_ n3_
                            have n0_ := Aside0.mk (Kd.R_drew HO_8.out)
                            have n1_ := Aside0.mk (blk_drew BK133.out)
                            have n2_ := Aside0.mk (blk_drew BK135.out)
                            have n3_ := Aside0.mk (below_drew1 HB.out)
                            clear HO_8
                            clear BK133
                            clear BK135
                            clear HB
                            have HO_8 := n0_
                            have BK133 := n1_
                            have BK135 := n2_
                            have HB := n3_
                            clear n0_ n1_ n2_ n3_
                            refine start_ (n := 5) (S := fun w' => w'.cell? ⟨gb133, 0, none⟩ = some (.int .i64 x134000_2) ∧ w'.cell? ⟨gb133, 1, none⟩ = some (.int .i64 x134001_2) ∧ w'.cell? ⟨gb133, 2, none⟩ = some (.int .i64 x134002_2) ∧ w'.cell? ⟨gb133, 3, none⟩ = some (.int .i64 x134003_2) ∧ w'.cell? ⟨gb133, 4, none⟩ = some (.int .i64 x134004_2) ∧ w'.cell? ⟨gb133, 5, none⟩ = some (.int .i64 x134005_2) ∧ w'.cell? ⟨gb135, 0, none⟩ = some (.int .i64 ((rd_T33 l0 x35_2).f0)) ∧ w'.cell? ⟨gb135, 1, none⟩ = some (.int .i64 ((rd_T33 l0 x35_2).f1))) (ds := [4]) #[false, false, false, false, false] (by kernel_rfl) rfl rfl ⟨(blk_cell BK133.out 0).trans rfl, (blk_cell BK133.out 1).trans rfl, (blk_cell BK133.out 2).trans rfl, (blk_cell BK133.out 3).trans rfl, (blk_cell BK133.out 4).trans rfl, (blk_cell BK133.out 5).trans rfl, (blk_cell BK135.out 0).trans rfl, (blk_cell BK135.out 1).trans rfl⟩ (fun hHeld => ?_)
                            generalize w69.drew = w70 at HO_8 BK133 BK135 HB hHeld ⊢
                            refine take_ (i := 0) (N := some 40) (v := ?_) (a' := ?_) #[true, false, false, false, false] rfl rfl (by kernel_rfl) (fun _ _ _ h => h) (Or.inl ⟨by rfl, ?_⟩) hHeld ?_ ?_
                            rotate_left
                            · rintro w' ⟨s0, s1, s2, s3, s4, s5, s6, s7⟩
                              go_simp
                              with_reducible rfl
                            rotate_left
                            · simp only [Act.put, List.setIfInBounds_toArray, List.set_cons_zero, List.set_cons_succ, i64_w, i32_w]
                              rfl
                            refine take_ (i := 1) (N := some 41) (v := ?_) (a' := ?_) #[true, true, false, false, false] rfl rfl (by kernel_rfl) (fun _ _ _ h => h) (Or.inl ⟨by rfl, ?_⟩) hHeld ?_ ?_
                            rotate_left
                            · rintro w' ⟨s0, s1, s2, s3, s4, s5, s6, s7⟩
                              go_simp
                              with_reducible rfl
                            rotate_left
                            · simp only [Act.put, List.setIfInBounds_toArray, List.set_cons_zero, List.set_cons_succ, i64_w, i32_w]
                              rfl
                            refine one_ (i := 2) (N := some 42) #[true, true, true, false, false] rfl rfl (by kernel_rfl) (by decide) (fun K hK => ?_)
                            refine goes_ Try.func43 (by kernel_rfl) rfl #[.agg #[.int .i64 ((rd_T33 l0 x35_2).f0), .int .i64 ((rd_T33 l0 x35_2).f1)]] (by rfl) rfl rfl (by (try simp only [List.map_toArray, List.map_cons, List.map_nil]); first | done | rfl | (simp only [List.length_drop, List.length_take]; rfl)) ?_
                            with_reducible refine (agg_one.calls ((rd_T33 l0 x35_2).f0) ((rd_T33 l0 x35_2).f1) t136 t137 t138 t139 t140 t141 _ A17.out).mono ?_
                            rintro e w71 ⟨rfl, hb⟩
                            refine ⟨_, rfl, ?_⟩
                            have n0_ := Aside0.mk (Kd.R_below (by (with_reducible repeat (first | apply Kd.R_alloc | apply Kd.R_drewN | apply Kd.R_drew)); exact HO_8.out) hb)
                            have n1_ := Aside0.mk (blk_below (g := gb133) (o := .cells #[.int .i64 x134000_2, .int .i64 x134001_2, .int .i64 x134002_2, .int .i64 x134003_2, .int .i64 x134004_2, .int .i64 x134005_2] 50 (0, 0)) (by (with_reducible repeat (first | refine blk_drewN ?_ _ | refine blk_drew ?_ | refine blk_alloc ?_ _)); exact BK133.out) hb)
                            have n2_ := Aside0.mk (blk_below (g := gb135) (o := .cells #[.int .i64 ((rd_T33 l0 x35_2).f0), .int .i64 ((rd_T33 l0 x35_2).f1)] 33 (0, 0)) (by (with_reducible repeat (first | refine blk_drewN ?_ _ | refine blk_drew ?_ | refine blk_alloc ?_ _)); exact BK135.out) hb)
                            have n3_ := Aside0.mk (below_step (by repeat (first | (with_reducible first | exact HB.out | apply below_alloc | apply pw_below_drewN | apply below_drew1 | refine below_set ?_ GE133.out | refine below_set ?_ GE135.out) | exact HB.out)) hb)
                            clear HO_8
                            clear BK133
                            clear BK135
                            clear HB
                            have HO_8 := n0_
                            have BK133 := n1_
                            have BK135 := n2_
                            have HB := n3_
                            clear n0_ n1_ n2_ n3_
                            (try clear hb)
                            (try clear hb2)
                            (try clear hk)
                            (try clear hi)
                            refine hK.out _ _ ⟨(blk_cell BK133.out 0).trans rfl, (blk_cell BK133.out 1).trans rfl, (blk_cell BK133.out 2).trans rfl, (blk_cell BK133.out 3).trans rfl, (blk_cell BK133.out 4).trans rfl, (blk_cell BK133.out 5).trans rfl, (blk_cell BK135.out 0).trans rfl, (blk_cell BK135.out 1).trans rfl⟩ (fun hHeld => ?_)
                            clear hK K
                            refine norm_ (a' := ?_) ?_ ?_
                            rotate_left
                            · show Act.put _ (some 42) _ = _
                              simp only [Act.put, List.setIfInBounds_toArray, List.set_cons_zero, List.set_cons_succ, i64_w, i32_w]
                              rfl
                            refine one_ (i := 3) (N := some 43) #[true, true, true, true, false] rfl rfl (by kernel_rfl) (by decide) (fun K hK => ?_)
                            refine goes_ Try.func32 (by kernel_rfl) rfl #[.agg #[.int .i64 x134000_2, .int .i64 x134001_2, .int .i64 x134002_2, .int .i64 x134003_2, .int .i64 x134004_2, .int .i64 x134005_2], .agg #[.int .i64 t136, .int .i64 t137, .int .i64 t138, .int .i64 t139, .int .i64 t140, .int .i64 t141]] (by rfl) rfl rfl (by (try simp only [List.map_toArray, List.map_cons, List.map_nil]); first | done | rfl | (simp only [List.length_drop, List.length_take]; rfl)) ?_
                            with_reducible refine (agg_Join.calls x134000_2 x134001_2 x134002_2 x134003_2 x134004_2 x134005_2 t136 t137 t138 t139 t140 t141 t142 t143 t144 t145 t146 t147 _ A18.out).mono ?_
                            rintro e w72 ⟨rfl, hb⟩
                            refine ⟨_, rfl, ?_⟩
                            have n0_ := Aside0.mk (Kd.R_below (by (with_reducible repeat (first | apply Kd.R_alloc | apply Kd.R_drewN | apply Kd.R_drew)); exact HO_8.out) hb)
                            have n1_ := Aside0.mk (blk_below (g := gb133) (o := .cells #[.int .i64 x134000_2, .int .i64 x134001_2, .int .i64 x134002_2, .int .i64 x134003_2, .int .i64 x134004_2, .int .i64 x134005_2] 50 (0, 0)) (by (with_reducible repeat (first | refine blk_drewN ?_ _ | refine blk_drew ?_ | refine blk_alloc ?_ _)); exact BK133.out) hb)
                            have n2_ := Aside0.mk (blk_below (g := gb135) (o := .cells #[.int .i64 ((rd_T33 l0 x35_2).f0), .int .i64 ((rd_T33 l0 x35_2).f1)] 33 (0, 0)) (by (with_reducible repeat (first | refine blk_drewN ?_ _ | refine blk_drew ?_ | refine blk_alloc ?_ _)); exact BK135.out) hb)
                            have n3_ := Aside0.mk (below_step (by repeat (first | (with_reducible first | exact HB.out | apply below_alloc | apply pw_below_drewN | apply below_drew1 | refine below_set ?_ GE133.out | refine below_set ?_ GE135.out) | exact HB.out)) hb)
                            clear HO_8
                            clear BK133
                            clear BK135
                            clear HB
                            have HO_8 := n0_
                            have BK133 := n1_
                            have BK135 := n2_
                            have HB := n3_
                            clear n0_ n1_ n2_ n3_
                            (try clear hb)
                            (try clear hb2)
                            (try clear hk)
                            (try clear hi)
                            refine hK.out _ _ ⟨(blk_cell BK133.out 0).trans rfl, (blk_cell BK133.out 1).trans rfl, (blk_cell BK133.out 2).trans rfl, (blk_cell BK133.out 3).trans rfl, (blk_cell BK133.out 4).trans rfl, (blk_cell BK133.out 5).trans rfl, (blk_cell BK135.out 0).trans rfl, (blk_cell BK135.out 1).trans rfl⟩ (fun hHeld => ?_)
                            clear hK K
                            refine norm_ (a' := ?_) ?_ ?_
                            rotate_left
                            · show Act.put _ (some 43) _ = _
                              simp only [Act.put, List.setIfInBounds_toArray, List.set_cons_zero, List.set_cons_succ, i64_w, i32_w]
                              rfl
                            refine last_ (i := 4) (N := none) #[true, true, true, true, true] rfl rfl (by kernel_rfl) (by decide) (fun K hK => ?_)
                            have hs73 : w72.cell? ⟨gb133, 0, none⟩ = some (.int .i64 x134000_2) := (blk_cell BK133.out 0).trans rfl
                            have hfs73 := blk_frozen BK133.out 0
                            have hns73_1 := NB135_133.out
                            have hms73_1 := NB133_135.out
                            have hs74 : w72.cell? ⟨gb133, 1, none⟩ = some (.int .i64 x134001_2) := (blk_cell BK133.out 1).trans rfl
                            have hfs74 := blk_frozen BK133.out 1
                            have hns74_1 := NB135_133.out
                            have hms74_1 := NB133_135.out
                            have hs75 : w72.cell? ⟨gb133, 2, none⟩ = some (.int .i64 x134002_2) := (blk_cell BK133.out 2).trans rfl
                            have hfs75 := blk_frozen BK133.out 2
                            have hns75_1 := NB135_133.out
                            have hms75_1 := NB133_135.out
                            have hs76 : w72.cell? ⟨gb133, 3, none⟩ = some (.int .i64 x134003_2) := (blk_cell BK133.out 3).trans rfl
                            have hfs76 := blk_frozen BK133.out 3
                            have hns76_1 := NB135_133.out
                            have hms76_1 := NB133_135.out
                            have hs77 : w72.cell? ⟨gb133, 4, none⟩ = some (.int .i64 x134004_2) := (blk_cell BK133.out 4).trans rfl
                            have hfs77 := blk_frozen BK133.out 4
                            have hns77_1 := NB135_133.out
                            have hms77_1 := NB133_135.out
                            have hs78 : w72.cell? ⟨gb133, 5, none⟩ = some (.int .i64 x134005_2) := (blk_cell BK133.out 5).trans rfl
                            have hfs78 := blk_frozen BK133.out 5
                            have hns78_1 := NB135_133.out
                            have hms78_1 := NB133_135.out
                            refine skip_ (w1 := ?_) (by rfl) rfl ?_ ?_
                            rotate_left
                            · go_simp
                              rfl
                            refine hK.out _ _ ?_
                            clear hK K
                            refine done_ (by kernel_rfl) ?_
                            try go_wp2
                            have n0_ : Aside0 (Kd.R k33 33 ((((((w72.setCell ⟨gb133, 0, none⟩ (.int .i64 t142)).setCell ⟨gb133, 1, none⟩ (.int .i64 t143)).setCell ⟨gb133, 2, none⟩ (.int .i64 t144)).setCell ⟨gb133, 3, none⟩ (.int .i64 t145)).setCell ⟨gb133, 4, none⟩ (.int .i64 t146)).setCell ⟨gb133, 5, none⟩ (.int .i64 t147)) w.heap.size (fun k_ => k_ ≠ gb135) u8 x8_2) := ⟨by (with_reducible repeat (first | apply Kd.R_alloc | apply Kd.R_drewN | apply Kd.R_drew)); exact Kd.R_mono (Kd.R_far (p := ⟨gb133, 5, none⟩) (Kd.R_far (p := ⟨gb133, 4, none⟩) (Kd.R_far (p := ⟨gb133, 3, none⟩) (Kd.R_far (p := ⟨gb133, 2, none⟩) (Kd.R_far (p := ⟨gb133, 1, none⟩) (Kd.R_far (p := ⟨gb133, 0, none⟩) (Kd.R_types HO_8.out BK133.out (by decide)) (fun _ hk => hk.2) (.int .i64 t142)) (fun _ hk => hk.2) (.int .i64 t143)) (fun _ hk => hk.2) (.int .i64 t144)) (fun _ hk => hk.2) (.int .i64 t145)) (fun _ hk => hk.2) (.int .i64 t146)) (fun _ hk => hk.2) (.int .i64 t147)) (fun _ hk => hk.1)⟩
                            have n1_ : Aside0 (((((((w72.setCell ⟨gb133, 0, none⟩ (.int .i64 t142)).setCell ⟨gb133, 1, none⟩ (.int .i64 t143)).setCell ⟨gb133, 2, none⟩ (.int .i64 t144)).setCell ⟨gb133, 3, none⟩ (.int .i64 t145)).setCell ⟨gb133, 4, none⟩ (.int .i64 t146)).setCell ⟨gb133, 5, none⟩ (.int .i64 t147)).heap[gb133]? = some (.cells #[.int .i64 t142, .int .i64 t143, .int .i64 t144, .int .i64 t145, .int .i64 t146, .int .i64 t147] 50 (0, 0))) := ⟨by (with_reducible repeat (first | refine blk_drewN ?_ _ | refine blk_drew ?_ | refine blk_alloc ?_ _)); refine blk_put (cs := #[.int .i64 t142, .int .i64 t143, .int .i64 t144, .int .i64 t145, .int .i64 t146, .int .i64 x134005_2]) ?_ 5 _ rfl; (with_reducible repeat (first | refine blk_drewN ?_ _ | refine blk_drew ?_ | refine blk_alloc ?_ _)); refine blk_put (cs := #[.int .i64 t142, .int .i64 t143, .int .i64 t144, .int .i64 t145, .int .i64 x134004_2, .int .i64 x134005_2]) ?_ 4 _ rfl; (with_reducible repeat (first | refine blk_drewN ?_ _ | refine blk_drew ?_ | refine blk_alloc ?_ _)); refine blk_put (cs := #[.int .i64 t142, .int .i64 t143, .int .i64 t144, .int .i64 x134003_2, .int .i64 x134004_2, .int .i64 x134005_2]) ?_ 3 _ rfl; (with_reducible repeat (first | refine blk_drewN ?_ _ | refine blk_drew ?_ | refine blk_alloc ?_ _)); refine blk_put (cs := #[.int .i64 t142, .int .i64 t143, .int .i64 x134002_2, .int .i64 x134003_2, .int .i64 x134004_2, .int .i64 x134005_2]) ?_ 2 _ rfl; (with_reducible repeat (first | refine blk_drewN ?_ _ | refine blk_drew ?_ | refine blk_alloc ?_ _)); refine blk_put (cs := #[.int .i64 t142, .int .i64 x134001_2, .int .i64 x134002_2, .int .i64 x134003_2, .int .i64 x134004_2, .int .i64 x134005_2]) ?_ 1 _ rfl; (with_reducible repeat (first | refine blk_drewN ?_ _ | refine blk_drew ?_ | refine blk_alloc ?_ _)); refine blk_put (cs := #[.int .i64 x134000_2, .int .i64 x134001_2, .int .i64 x134002_2, .int .i64 x134003_2, .int .i64 x134004_2, .int .i64 x134005_2]) ?_ 0 _ rfl; (with_reducible repeat (first | refine blk_drewN ?_ _ | refine blk_drew ?_ | refine blk_alloc ?_ _)); exact BK133.out⟩
                            have n2_ : Aside0 (((((((w72.setCell ⟨gb133, 0, none⟩ (.int .i64 t142)).setCell ⟨gb133, 1, none⟩ (.int .i64 t143)).setCell ⟨gb133, 2, none⟩ (.int .i64 t144)).setCell ⟨gb133, 3, none⟩ (.int .i64 t145)).setCell ⟨gb133, 4, none⟩ (.int .i64 t146)).setCell ⟨gb133, 5, none⟩ (.int .i64 t147)).heap[gb135]? = some (.cells #[.int .i64 ((rd_T33 l0 x35_2).f0), .int .i64 ((rd_T33 l0 x35_2).f1)] 33 (0, 0))) := ⟨by (with_reducible repeat (first | refine blk_drewN ?_ _ | refine blk_drew ?_ | refine blk_alloc ?_ _)); refine blk_far ?_ NB135_133.out _; (with_reducible repeat (first | refine blk_drewN ?_ _ | refine blk_drew ?_ | refine blk_alloc ?_ _)); refine blk_far ?_ NB135_133.out _; (with_reducible repeat (first | refine blk_drewN ?_ _ | refine blk_drew ?_ | refine blk_alloc ?_ _)); refine blk_far ?_ NB135_133.out _; (with_reducible repeat (first | refine blk_drewN ?_ _ | refine blk_drew ?_ | refine blk_alloc ?_ _)); refine blk_far ?_ NB135_133.out _; (with_reducible repeat (first | refine blk_drewN ?_ _ | refine blk_drew ?_ | refine blk_alloc ?_ _)); refine blk_far ?_ NB135_133.out _; (with_reducible repeat (first | refine blk_drewN ?_ _ | refine blk_drew ?_ | refine blk_alloc ?_ _)); refine blk_far ?_ NB135_133.out _; (with_reducible repeat (first | refine blk_drewN ?_ _ | refine blk_drew ?_ | refine blk_alloc ?_ _)); exact BK135.out⟩
                            have n3_ : Aside0 (Below w.heap.size w ((((((w72.setCell ⟨gb133, 0, none⟩ (.int .i64 t142)).setCell ⟨gb133, 1, none⟩ (.int .i64 t143)).setCell ⟨gb133, 2, none⟩ (.int .i64 t144)).setCell ⟨gb133, 3, none⟩ (.int .i64 t145)).setCell ⟨gb133, 4, none⟩ (.int .i64 t146)).setCell ⟨gb133, 5, none⟩ (.int .i64 t147))) := ⟨by repeat (first | (with_reducible first | exact HB.out | apply below_alloc | apply pw_below_drewN | apply below_drew1 | refine below_set ?_ GE133.out | refine below_set ?_ GE135.out) | exact HB.out)⟩
                            (try clear HO_8)
                            (try clear BK133)
                            (try clear BK135)
                            (try clear HB)
                            generalize ((((((w72.setCell ⟨gb133, 0, none⟩ (.int .i64 t142)).setCell ⟨gb133, 1, none⟩ (.int .i64 t143)).setCell ⟨gb133, 2, none⟩ (.int .i64 t144)).setCell ⟨gb133, 3, none⟩ (.int .i64 t145)).setCell ⟨gb133, 4, none⟩ (.int .i64 t146)).setCell ⟨gb133, 5, none⟩ (.int .i64 t147)) = w79 at n0_ n1_ n2_ n3_ ⊢
                            have HO_8 := n0_
                            have BK133 := n1_
                            have BK135 := n2_
                            have HB := n3_
                            clear n0_ n1_ n2_ n3_
                            have n0_ := Aside0.mk (Kd.R_drew HO_8.out)
                            have n1_ := Aside0.mk (blk_drew BK133.out)
                            have n2_ := Aside0.mk (blk_drew BK135.out)
                            have n3_ := Aside0.mk (below_drew1 HB.out)
                            clear HO_8
                            clear BK133
                            clear BK135
                            clear HB
                            have HO_8 := n0_
                            have BK133 := n1_
                            have BK135 := n2_
                            have HB := n3_
                            clear n0_ n1_ n2_ n3_
                            refine start_ (n := 12) (S := fun w' => w'.cell? ⟨gb135, 0, none⟩ = some (.int .i64 ((rd_T33 l0 x35_2).f0)) ∧ w'.cell? ⟨gb135, 1, none⟩ = some (.int .i64 ((rd_T33 l0 x35_2).f1))) (ds := []) #[false, false, false, false, false, false, false, false, false, false, false, false] (by kernel_rfl) rfl rfl ⟨(blk_cell BK135.out 0).trans rfl, (blk_cell BK135.out 1).trans rfl⟩ (fun hHeld => ?_); refine with_tabW agg_Rollup.tab9 agg_Rollup.bits9 (fun HT_ HW_ => ?_)
                            generalize w79.drew = w80 at HO_8 BK133 BK135 HB hHeld ⊢
                            refine pure_ (i := 0) (N := some 44) (v := ?_) (a' := ?_) #[true, false, false, false, false, false, false, false, false, false, false, false] rfl rfl (any_of HT_.out (by kernel_rfl)) (fun _ _ _ h => h) (Or.inl ⟨by rfl, ?_⟩) ?_ ?_
                            rotate_left
                            · intro w'
                              go_simp
                              with_reducible rfl
                            rotate_left
                            · simp only [Act.put, List.setIfInBounds_toArray, List.set_cons_zero, List.set_cons_succ, i64_w, i32_w]
                              rfl
                            refine pure_ (i := 2) (N := some 46) (v := ?_) (a' := ?_) #[true, false, true, false, false, false, false, false, false, false, false, false] rfl rfl (any_of HT_.out (by kernel_rfl)) (fun _ _ _ h => h) (Or.inl ⟨by rfl, ?_⟩) ?_ ?_
                            rotate_left
                            · intro w'
                              go_simp
                              with_reducible rfl
                            rotate_left
                            · simp only [Act.put, List.setIfInBounds_toArray, List.set_cons_zero, List.set_cons_succ, i64_w, i32_w]
                              rfl
                            refine pure_ (i := 4) (N := some 48) (v := ?_) (a' := ?_) #[true, false, true, false, true, false, false, false, false, false, false, false] rfl rfl (any_of HT_.out (by kernel_rfl)) (fun _ _ _ h => h) (Or.inl ⟨by rfl, ?_⟩) ?_ ?_
                            rotate_left
                            · intro w'
                              go_simp
                              with_reducible rfl
                            rotate_left
                            · simp only [Act.put, List.setIfInBounds_toArray, List.set_cons_zero, List.set_cons_succ, i64_w, i32_w]
                              rfl
                            refine pure_ (i := 6) (N := some 50) (v := ?_) (a' := ?_) #[true, false, true, false, true, false, true, false, false, false, false, false] rfl rfl (any_of HT_.out (by kernel_rfl)) (fun _ _ _ h => h) (Or.inl ⟨by rfl, ?_⟩) ?_ ?_
                            rotate_left
                            · intro w'
                              go_simp
                              with_reducible rfl
                            rotate_left
                            · simp only [Act.put, List.setIfInBounds_toArray, List.set_cons_zero, List.set_cons_succ, i64_w, i32_w]
                              rfl
                            refine pure_ (i := 8) (N := some 52) (v := ?_) (a' := ?_) #[true, false, true, false, true, false, true, false, true, false, false, false] rfl rfl (any_of HT_.out (by kernel_rfl)) (fun _ _ _ h => h) (Or.inl ⟨by rfl, ?_⟩) ?_ ?_
                            rotate_left
                            · intro w'
                              go_simp
                              with_reducible rfl
                            rotate_left
                            · simp only [Act.put, List.setIfInBounds_toArray, List.set_cons_zero, List.set_cons_succ, i64_w, i32_w]
                              rfl
                            refine take_ (i := 1) (N := some 45) (v := ?_) (a' := ?_) #[true, true, true, false, true, false, true, false, true, false, false, false] rfl rfl (take_ofW HT_.out HW_.out (by kernel_rfl)) (fun _ _ _ h => h) (Or.inl ⟨by rfl, ?_⟩) hHeld ?_ ?_
                            rotate_left
                            · rintro w' ⟨s0, s1⟩
                              go_simp
                              with_reducible rfl
                            rotate_left
                            · simp only [Act.put, List.setIfInBounds_toArray, List.set_cons_zero, List.set_cons_succ, i64_w, i32_w]
                              rfl
                            refine take_ (i := 3) (N := some 47) (v := ?_) (a' := ?_) #[true, true, true, true, true, false, true, false, true, false, false, false] rfl rfl (take_ofW HT_.out HW_.out (by kernel_rfl)) (fun _ _ _ h => h) (Or.inl ⟨by rfl, ?_⟩) hHeld ?_ ?_
                            rotate_left
                            · rintro w' ⟨s0, s1⟩
                              go_simp
                              with_reducible rfl
                            rotate_left
                            · simp only [Act.put, List.setIfInBounds_toArray, List.set_cons_zero, List.set_cons_succ, i64_w, i32_w]
                              rfl
                            refine pure_ (i := 5) (N := some 49) (v := ?_) (a' := ?_) #[true, true, true, true, true, true, true, false, true, false, false, false] rfl rfl (any_of HT_.out (by kernel_rfl)) (fun _ _ _ h => h) (Or.inl ⟨by rfl, ?_⟩) ?_ ?_
                            rotate_left
                            · intro w'
                              go_simp
                              with_reducible rfl
                            rotate_left
                            · simp only [Act.put, List.setIfInBounds_toArray, List.set_cons_zero, List.set_cons_succ, i64_w, i32_w]
                              rfl
                            refine pure_ (i := 7) (N := some 51) (v := ?_) (a' := ?_) #[true, true, true, true, true, true, true, true, true, false, false, false] rfl rfl (any_of HT_.out (by kernel_rfl)) (fun _ _ _ h => h) (Or.inl ⟨by rfl, ?_⟩) ?_ ?_
                            rotate_left
                            · intro w'
                              go_simp
                              with_reducible rfl
                            rotate_left
                            · simp only [Act.put, List.setIfInBounds_toArray, List.set_cons_zero, List.set_cons_succ, i64_w, i32_w]
                              rfl
                            refine pure_ (i := 9) (N := some 53) (v := ?_) (a' := ?_) #[true, true, true, true, true, true, true, true, true, true, false, false] rfl rfl (any_of HT_.out (by kernel_rfl)) (fun _ _ _ h => h) (Or.inl ⟨by rfl, ?_⟩) ?_ ?_
                            rotate_left
                            · intro w'
                              go_simp
                              with_reducible rfl
                            rotate_left
                            · simp only [Act.put, List.setIfInBounds_toArray, List.set_cons_zero, List.set_cons_succ, i64_w, i32_w]
                              rfl
                            refine pure_ (i := 10) (N := some 54) (v := ?_) (a' := ?_) #[true, true, true, true, true, true, true, true, true, true, true, false] rfl rfl (any_of HT_.out (by kernel_rfl)) (fun _ _ _ h => h) (Or.inl ⟨by rfl, ?_⟩) ?_ ?_
                            rotate_left
                            · intro w'
                              go_simp
                              with_reducible rfl
                            rotate_left
                            · simp only [Act.put, List.setIfInBounds_toArray, List.set_cons_zero, List.set_cons_succ, i64_w, i32_w]
                              rfl
                            refine pure_ (i := 11) (N := some 12) (v := ?_) (a' := ?_) #[true, true, true, true, true, true, true, true, true, true, true, true] rfl rfl (any_of HT_.out (by kernel_rfl)) (fun _ _ _ h => h) (Or.inl ⟨by rfl, ?_⟩) ?_ ?_
                            rotate_left
                            · intro w'
                              go_simp
                              with_reducible rfl
                            rotate_left
                            · simp only [Act.put, List.setIfInBounds_toArray, List.set_cons_zero, List.set_cons_succ, i64_w, i32_w]
                              rfl
                            refine done_ (done_of HT_.out (by kernel_rfl)) ?_
                            have hcz81_0 : w80.cell? ⟨gb133, 0, none⟩ = some (.int .i64 t142) := (blk_cell BK133.out 0).trans rfl
                            have hcz81_1 : w80.cell? ⟨gb133, 1, none⟩ = some (.int .i64 t143) := (blk_cell BK133.out 1).trans rfl
                            have hcz81_2 : w80.cell? ⟨gb133, 2, none⟩ = some (.int .i64 t144) := (blk_cell BK133.out 2).trans rfl
                            have hcz81_3 : w80.cell? ⟨gb133, 3, none⟩ = some (.int .i64 t145) := (blk_cell BK133.out 3).trans rfl
                            have hcz81_4 : w80.cell? ⟨gb133, 4, none⟩ = some (.int .i64 t146) := (blk_cell BK133.out 4).trans rfl
                            have hcz81_5 : w80.cell? ⟨gb133, 5, none⟩ = some (.int .i64 t147) := (blk_cell BK133.out 5).trans rfl
                            have hfz81_0 := blk_frozen BK133.out 0
                            have hfz81_1 := blk_frozen BK133.out 1
                            have hfz81_2 := blk_frozen BK133.out 2
                            have hfz81_3 := blk_frozen BK133.out 3
                            have hfz81_4 := blk_frozen BK133.out 4
                            have hfz81_5 := blk_frozen BK133.out 5
                            try go_wp2_with (first | (go_at_call 49; (with_reducible refine (agg_told_fields.calls t142 t143 t144 t145 t146 t147 t158 t159 t160 t161 t162 t163 _ A62.out).mono ?_); rintro e w82 ⟨rfl, hb⟩; have n0_ := Aside0.mk (Kd.R_below (by (with_reducible repeat (first | apply Kd.R_alloc | apply Kd.R_drewN | apply Kd.R_drew)); exact HO_8.out) hb); have n1_ := Aside0.mk (blk_below (g := gb133) (o := .cells #[.int .i64 t142, .int .i64 t143, .int .i64 t144, .int .i64 t145, .int .i64 t146, .int .i64 t147] 50 (0, 0)) (by (with_reducible repeat (first | refine blk_drewN ?_ _ | refine blk_drew ?_ | refine blk_alloc ?_ _)); exact BK133.out) hb); have n2_ := Aside0.mk (blk_below (g := gb135) (o := .cells #[.int .i64 ((rd_T33 l0 x35_2).f0), .int .i64 ((rd_T33 l0 x35_2).f1)] 33 (0, 0)) (by (with_reducible repeat (first | refine blk_drewN ?_ _ | refine blk_drew ?_ | refine blk_alloc ?_ _)); exact BK135.out) hb); have n3_ := Aside0.mk (below_step (by repeat (first | (with_reducible first | exact HB.out | apply below_alloc | apply pw_below_drewN | apply below_drew1 | refine below_set ?_ GE133.out | refine below_set ?_ GE135.out) | exact HB.out)) hb); clear HO_8; clear BK133; clear BK135; clear HB; have HO_8 := n0_; have BK133 := n1_; have BK135 := n2_; have HB := n3_; clear n0_ n1_ n2_ n3_; (try clear hb); (try clear hb2); (try clear hk); (try clear hi)) | ((with_reducible refine gate_builtin (b := .append) (xs := #[.tmp 74, .tmp 81]) rfl ?_); at_builtin; refine Kd.R_append k33 (w0 := w) w.heap.size rfl (.tmp 74) (.tmp 81) 30 33 (.agg #[(.int .i64 0), (.int .i64 0)]) 16 rfl Try.underlying30 info33 rfl (by decide) (by omega) u8 x8_2 (⟨wrap64 (((rd_T33 l0 x35_2).f0) - (Int.tmod (wrap64 ((Int.tmod ((rd_T33 l0 x35_2).f0) a1) + a1)) a1)), rd [t158, t159, t160, t161, t162, t163] a2⟩ : S33) [.int .i64 (wrap64 (((rd_T33 l0 x35_2).f0) - (Int.tmod (wrap64 ((Int.tmod ((rd_T33 l0 x35_2).f0) a1) + a1)) a1))), .int .i64 (rd [t158, t159, t160, t161, t162, t163] a2)] (fun k_ => k_ ≠ gb135) (fun _ => False) rfl rfl ?aP (fun _ hk => hk.elim) ?aF ?aO ?aB ?aS ?aL ?_; (case aP => exact k33_mkM _ _ _ (⟨wrap64 (((rd_T33 l0 x35_2).f0) - (Int.tmod (wrap64 ((Int.tmod ((rd_T33 l0 x35_2).f0) a1) + a1)) a1)), rd [t158, t159, t160, t161, t162, t163] a2⟩ : S33)); (case aB => exact (by repeat (first | (with_reducible first | exact HB.out | apply below_alloc | apply pw_below_drewN | apply below_drew1 | refine below_set ?_ GE133.out | refine below_set ?_ GE135.out) | exact HB.out))); (case aF => exact (fun k_ hk => Kd.freshB (g := gb135) (o := .cells #[.int .i64 ((rd_T33 l0 x35_2).f0), .int .i64 ((rd_T33 l0 x35_2).f1)] 33 (0, 0)) (by (with_reducible repeat (first | refine blk_drewN ?_ _ | refine blk_drew ?_ | refine blk_alloc ?_ _)); exact BK135.out) k_ hk)); (case aO => exact (by (with_reducible repeat (first | apply Kd.R_alloc | apply Kd.R_drewN | apply Kd.R_drew)); exact HO_8.out)); (case aS => exact (below_size (by repeat (first | (with_reducible first | exact HB.out | apply below_alloc | apply pw_below_drewN | apply below_drew1 | refine below_set ?_ GE133.out | refine below_set ?_ GE135.out) | exact HB.out)))); (case aL => have := LMc65.out; omega); intro v165 w83 ho hb hg hat; rw [← Ny164.out] at ho; have n0_ := Aside0.mk (blk_grown (g := gb133) (o := .cells #[.int .i64 t142, .int .i64 t143, .int .i64 t144, .int .i64 t145, .int .i64 t146, .int .i64 t147] 50 (0, 0)) (by (with_reducible repeat (first | refine blk_drewN ?_ _ | refine blk_drew ?_ | refine blk_alloc ?_ _)); exact BK133.out) hg (Kd.R_ne HO_8.out BK133.out (by decide))); have n1_ := Aside0.mk (blk_grown (g := gb135) (o := .cells #[.int .i64 ((rd_T33 l0 x35_2).f0), .int .i64 ((rd_T33 l0 x35_2).f1)] 33 (0, 0)) (by (with_reducible repeat (first | refine blk_drewN ?_ _ | refine blk_drew ?_ | refine blk_alloc ?_ _)); exact BK135.out) hg (Kd.R_away HO_8.out (fun _ hk => hk))); have n2_ := Aside0.mk (hb); have n3_ := Aside0.mk (ho); clear BK133; clear BK135; clear HB; clear HO_8; have BK133 := n0_; have BK135 := n1_; have HB := n2_; have HO166 := n3_; clear n0_ n1_ n2_ n3_; clear ho hb hg hat; have hcz84_0 : w83.cell? ⟨gb133, 0, none⟩ = some (.int .i64 t142) := (blk_cell BK133.out 0).trans rfl; have hcz84_1 : w83.cell? ⟨gb133, 1, none⟩ = some (.int .i64 t143) := (blk_cell BK133.out 1).trans rfl; have hcz84_2 : w83.cell? ⟨gb133, 2, none⟩ = some (.int .i64 t144) := (blk_cell BK133.out 2).trans rfl; have hcz84_3 : w83.cell? ⟨gb133, 3, none⟩ = some (.int .i64 t145) := (blk_cell BK133.out 3).trans rfl; have hcz84_4 : w83.cell? ⟨gb133, 4, none⟩ = some (.int .i64 t146) := (blk_cell BK133.out 4).trans rfl; have hcz84_5 : w83.cell? ⟨gb133, 5, none⟩ = some (.int .i64 t147) := (blk_cell BK133.out 5).trans rfl; have hfz84_0 := blk_frozen BK133.out 0; have hfz84_1 := blk_frozen BK133.out 1; have hfz84_2 := blk_frozen BK133.out 2; have hfz84_3 := blk_frozen BK133.out 3; have hfz84_4 := blk_frozen BK133.out 4; have hfz84_5 := blk_frozen BK133.out 5))
                            go_roundg k2
                            case measure => have := HJ3.out; have := HK2.out; omega
                            case rel => exact ⟨(y164), (wrap64 (x35_2 + 1)), (0), (0), (0), (0), (0), (0), (by first | rfl | (simp; done) | (simp [*]; done) | (simp <;> grind)), H', ⟨by have := HJ3.out; have := HK2.out; omega⟩, ⟨by (with_reducible repeat (first | apply Kd.R_alloc | apply Kd.R_drewN | apply Kd.R_drew)); exact Kd.R_mono (Kd.R_far (p := ⟨gb133, 5, none⟩) (Kd.R_far (p := ⟨gb133, 4, none⟩) (Kd.R_far (p := ⟨gb133, 3, none⟩) (Kd.R_far (p := ⟨gb133, 2, none⟩) (Kd.R_far (p := ⟨gb133, 1, none⟩) (Kd.R_far (p := ⟨gb133, 0, none⟩) (Kd.R_types HO166.out BK133.out (by decide)) (fun _ hk => hk.2) (.int .i64 0)) (fun _ hk => hk.2) (.int .i64 0)) (fun _ hk => hk.2) (.int .i64 0)) (fun _ hk => hk.2) (.int .i64 0)) (fun _ hk => hk.2) (.int .i64 0)) (fun _ hk => hk.2) (.int .i64 0)) (fun _ hk => trivial)⟩, ⟨by (with_reducible repeat (first | refine blk_drewN ?_ _ | refine blk_drew ?_ | refine blk_alloc ?_ _)); refine blk_put (cs := #[.int .i64 0, .int .i64 0, .int .i64 0, .int .i64 0, .int .i64 0, .int .i64 t147]) ?_ 5 _ rfl; (with_reducible repeat (first | refine blk_drewN ?_ _ | refine blk_drew ?_ | refine blk_alloc ?_ _)); refine blk_put (cs := #[.int .i64 0, .int .i64 0, .int .i64 0, .int .i64 0, .int .i64 t146, .int .i64 t147]) ?_ 4 _ rfl; (with_reducible repeat (first | refine blk_drewN ?_ _ | refine blk_drew ?_ | refine blk_alloc ?_ _)); refine blk_put (cs := #[.int .i64 0, .int .i64 0, .int .i64 0, .int .i64 t145, .int .i64 t146, .int .i64 t147]) ?_ 3 _ rfl; (with_reducible repeat (first | refine blk_drewN ?_ _ | refine blk_drew ?_ | refine blk_alloc ?_ _)); refine blk_put (cs := #[.int .i64 0, .int .i64 0, .int .i64 t144, .int .i64 t145, .int .i64 t146, .int .i64 t147]) ?_ 2 _ rfl; (with_reducible repeat (first | refine blk_drewN ?_ _ | refine blk_drew ?_ | refine blk_alloc ?_ _)); refine blk_put (cs := #[.int .i64 0, .int .i64 t143, .int .i64 t144, .int .i64 t145, .int .i64 t146, .int .i64 t147]) ?_ 1 _ rfl; (with_reducible repeat (first | refine blk_drewN ?_ _ | refine blk_drew ?_ | refine blk_alloc ?_ _)); refine blk_put (cs := #[.int .i64 t142, .int .i64 t143, .int .i64 t144, .int .i64 t145, .int .i64 t146, .int .i64 t147]) ?_ 0 _ rfl; (with_reducible repeat (first | refine blk_drewN ?_ _ | refine blk_drew ?_ | refine blk_alloc ?_ _)); exact BK133.out⟩, ⟨by repeat (first | (with_reducible first | exact HB.out | apply below_alloc | apply pw_below_drewN | apply below_drew1 | refine below_set ?_ GE133.out | refine below_set ?_ GE135.out) | exact HB.out)⟩⟩
                          · rw [if_neg c65] at H
                            exact absurd H (by simp)
                        · rw [if_neg c64] at H
                          exact absurd H (by simp)
                      · rw [if_neg c63] at H
                        exact absurd H (by simp)
                · rw [if_neg c16] at H
                  exact absurd H (by simp)
              · rw [if_neg c15] at H
                exact absurd H (by simp)
            · rw [if_neg c14] at H
              have c14b0 : decide (x35_2 < (l0.length : Int)) = false := decide_eq_false c14
              clear c14
              simp only [Option.some.injEq, Prod.mk.injEq] at H
              obtain ⟨rfl, rfl⟩ := H
              go_wp2
              go_ret2
              exact ⟨_, by first | rfl | (simp [errW_none, errW_some] <;> rfl) | (simp [*, errW_none, errW_some] <;> rfl), by (with_reducible repeat (first | apply Kd.R_alloc | apply Kd.R_drewN | apply Kd.R_drew)); exact HO_8.out, by repeat (first | (with_reducible first | exact HB.out | apply below_alloc | apply pw_below_drewN | apply below_drew1 | refine below_set ?_ GE133.out) | exact HB.out)⟩

end Go.Proofs.Ytjkpdjadbeidnaa.X
