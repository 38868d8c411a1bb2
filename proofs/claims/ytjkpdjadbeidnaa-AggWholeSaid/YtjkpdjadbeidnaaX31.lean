-- By xprint.py, out of the translation's own print. Lean checks it.
import Derived.Test.YtjkpdjadbeidnaaX0
import Derived.Test.YtjkpdjadbeidnaaX4
import Derived.Test.YtjkpdjadbeidnaaX5
import Derived.Test.YtjkpdjadbeidnaaX7
namespace Go.Proofs.Ytjkpdjadbeidnaa.X
open Go.RowKit Go.Proofs.YtjkpdjadbeidnaaW.PrintWords Go.Proofs.YtjkpdjadbeidnaaW.PrintLast Go.Proofs.YtjkpdjadbeidnaaW.PrintMore
attribute [local go_sem] max2_int min2_int max_two min_two max_three min_three max_four min_four   -- for this text's walks alone
set_option linter.unusedVariables false
set_option linter.unusedSimpArgs false

attribute [local go_sem high] idxA80
/-! ### agg_Buckets: function 37 -/
mutual
def agg_Buckets.j0 : Nat → List (S33) → Int → Int → Int → Bool → Option ((List (S68)) × Int)
  | 0, _, _, _, _, _ => none
  | k + 1, x0, x1, x2, x3, x15 => if x15 = true then (some (([] : List (S68)), 1)) else (if x3 = 0 then (none) else (if (wrap64 (Int.tdiv (wrap64 ((wrap64 (x2 - x1)) - 1)) x3)) ≥ 200 then (some (([] : List (S68)), 3)) else (agg_Buckets.l0 k x1 x2 x3 ([] : List (S68)) x0 (x0.length : Int) 0)))
def agg_Buckets.l0 : Nat → Int → Int → Int → List (S68) → List (S33) → Int → Int → Option ((List (S68)) × Int)
  | 0, _, _, _, _, _, _, _ => none
  | k + 1, x1, x2, x3, x10, x44, x45, x46 => if x46 < x45 then (if 0 ≤ x46 then (if x46 < (x44.length : Int) then (if ((rd_T33 x44 x46).f0) < x1 then (agg_Buckets.j2 k x1 x2 x3 x10 x44 x45 x46 true ((rd_T33 x44 x46).f0) ((rd_T33 x44 x46).f1)) else (agg_Buckets.j2 k x1 x2 x3 x10 x44 x45 x46 (decide (((rd_T33 x44 x46).f0) ≥ x2)) ((rd_T33 x44 x46).f0) ((rd_T33 x44 x46).f1))) else (none)) else (none)) else (some (x10, 0))
def agg_Buckets.j2 : Nat → Int → Int → Int → List (S68) → List (S33) → Int → Int → Bool → Int → Int → Option ((List (S68)) × Int)
  | 0, _, _, _, _, _, _, _, _, _, _ => none
  | k + 1, x1, x2, x3, x10, x44, x45, x46, x59, x435000, x435001 => if x59 = true then (agg_Buckets.l0 k x1 x2 x3 x10 x44 x45 (wrap64 (x46 + 1))) else (if x3 = 0 then (none) else (if (wrap64 ((x10.length : Int) - 1)) ≥ 0 then (if 0 ≤ (wrap64 ((x10.length : Int) - 1)) then (if (wrap64 ((x10.length : Int) - 1)) < (x10.length : Int) then (agg_Buckets.j3 k x1 x2 x3 x10 (wrap64 (x1 + (wrap64 ((wrap64 (Int.tdiv (wrap64 (x435000 - x1)) x3)) * x3)))) (wrap64 ((x10.length : Int) - 1)) x44 x45 x46 (((rd_T68 x10 (wrap64 ((x10.length : Int) - 1))).f0) == (wrap64 (x1 + (wrap64 ((wrap64 (Int.tdiv (wrap64 (x435000 - x1)) x3)) * x3))))) x435000 x435001) else (none)) else (none)) else (agg_Buckets.j3 k x1 x2 x3 x10 (wrap64 (x1 + (wrap64 ((wrap64 (Int.tdiv (wrap64 (x435000 - x1)) x3)) * x3)))) (wrap64 ((x10.length : Int) - 1)) x44 x45 x46 false x435000 x435001)))
def agg_Buckets.j3 : Nat → Int → Int → Int → List (S68) → Int → Int → List (S33) → Int → Int → Bool → Int → Int → Option ((List (S68)) × Int)
  | 0, _, _, _, _, _, _, _, _, _, _, _, _ => none
  | k + 1, x1, x2, x3, x10, x13, x14, x44, x45, x46, x83, x435000, x435001 => if x83 = true then (if 0 ≤ x14 then (if x14 < (x10.length : Int) then ((agg_one.f x435000 x435001).bind fun bt437 => ((agg_Join.f ((rd_T68 x10 x14).f1.f0) ((rd_T68 x10 x14).f1.f1) ((rd_T68 x10 x14).f1.f2) ((rd_T68 x10 x14).f1.f3) ((rd_T68 x10 x14).f1.f4) ((rd_T68 x10 x14).f1.f5) bt437.1 bt437.2.1 bt437.2.2.1 bt437.2.2.2.1 bt437.2.2.2.2.1 bt437.2.2.2.2.2).bind fun bt443 => (agg_Buckets.l0 k x1 x2 x3 (x10.set (x14 : Int).toNat (⟨(rd_T68 x10 x14).f0, (⟨bt443.1, bt443.2.1, bt443.2.2.1, bt443.2.2.2.1, bt443.2.2.2.2.1, bt443.2.2.2.2.2⟩ : S50)⟩ : S68)) x44 x45 (wrap64 (x46 + 1))))) else (none)) else (none)) else ((agg_one.f x435000 x435001).bind fun bt450 => (if x10.length < 2513169434916 then (agg_Buckets.l0 k x1 x2 x3 (x10 ++ [(⟨x13, (⟨bt450.1, bt450.2.1, bt450.2.2.1, bt450.2.2.2.1, bt450.2.2.2.2.1, bt450.2.2.2.2.2⟩ : S50)⟩ : S68)]) x44 x45 (wrap64 (x46 + 1))) else (none)))
end
def agg_Buckets.f (k : Nat) (l0 : List (S33)) (a1 : Int) (a2 : Int) (a3 : Int) : Option ((List (S68)) × Int) := (steps_Right.f k l0).bind fun t430 => (if t430 = true then (if a1 ≥ a2 then (agg_Buckets.j0 k l0 a1 a2 a3 true) else (if a3 < 1 then (agg_Buckets.j0 k l0 a1 a2 a3 true) else ((agg_bad.f a1).bind fun t431 => (if t431 = true then (agg_Buckets.j0 k l0 a1 a2 a3 true) else ((agg_bad.f a2).bind fun t432 => (agg_Buckets.j0 k l0 a1 a2 a3 t432)))))) else (agg_Buckets.j0 k l0 a1 a2 a3 true))
theorem agg_Buckets.mono_l : ∀ k, (∀ y0 y1 y2 y3 y4, LeO (agg_Buckets.j0 k y0 y1 y2 y3 y4) (agg_Buckets.j0 (k + 1) y0 y1 y2 y3 y4)) ∧ (∀ y0 y1 y2 y3 y4 y5 y6, LeO (agg_Buckets.l0 k y0 y1 y2 y3 y4 y5 y6) (agg_Buckets.l0 (k + 1) y0 y1 y2 y3 y4 y5 y6)) ∧ (∀ y0 y1 y2 y3 y4 y5 y6 y7 y8 y9, LeO (agg_Buckets.j2 k y0 y1 y2 y3 y4 y5 y6 y7 y8 y9) (agg_Buckets.j2 (k + 1) y0 y1 y2 y3 y4 y5 y6 y7 y8 y9)) ∧ (∀ y0 y1 y2 y3 y4 y5 y6 y7 y8 y9 y10 y11, LeO (agg_Buckets.j3 k y0 y1 y2 y3 y4 y5 y6 y7 y8 y9 y10 y11) (agg_Buckets.j3 (k + 1) y0 y1 y2 y3 y4 y5 y6 y7 y8 y9 y10 y11))
  | 0 => ⟨fun _ _ _ _ _ r h => by simp [agg_Buckets.j0] at h, fun _ _ _ _ _ _ _ r h => by simp [agg_Buckets.l0] at h, fun _ _ _ _ _ _ _ _ _ _ r h => by simp [agg_Buckets.j2] at h, fun _ _ _ _ _ _ _ _ _ _ _ _ r h => by simp [agg_Buckets.j3] at h⟩
  | k + 1 => by
    obtain ⟨ih0, ih1, ih2, ih3⟩ := agg_Buckets.mono_l k
    refine ⟨?_, ?_, ?_, ?_⟩
    · intro y0 y1 y2 y3 y4
      unfold agg_Buckets.j0
      repeat' first
      | (with_reducible exact ih0 _ _ _ _ _)
      | (with_reducible exact ih1 _ _ _ _ _ _ _)
      | (with_reducible exact ih2 _ _ _ _ _ _ _ _ _ _)
      | (with_reducible exact ih3 _ _ _ _ _ _ _ _ _ _ _ _)
      | (with_reducible exact steps_Right.mono _ _)
      | (with_reducible exact LeO.refl _)
      | (with_reducible exact LeO.none _)
      | (with_reducible refine LeO.ite ?_ ?_)
      | (with_reducible refine LeO.bind ?_ (fun _ => ?_))
      | exact ih0 _ _ _ _ _
      | exact ih1 _ _ _ _ _ _ _
      | exact ih2 _ _ _ _ _ _ _ _ _ _
      | exact ih3 _ _ _ _ _ _ _ _ _ _ _ _
      | exact steps_Right.mono _ _
      | exact LeO.none _
      | refine LeO.ite ?_ ?_
      | refine LeO.bind ?_ (fun _ => ?_)
    · intro y0 y1 y2 y3 y4 y5 y6
      unfold agg_Buckets.l0
      repeat' first
      | (with_reducible exact ih0 _ _ _ _ _)
      | (with_reducible exact ih1 _ _ _ _ _ _ _)
      | (with_reducible exact ih2 _ _ _ _ _ _ _ _ _ _)
      | (with_reducible exact ih3 _ _ _ _ _ _ _ _ _ _ _ _)
      | (with_reducible exact steps_Right.mono _ _)
      | (with_reducible exact LeO.refl _)
      | (with_reducible exact LeO.none _)
      | (with_reducible refine LeO.ite ?_ ?_)
      | (with_reducible refine LeO.bind ?_ (fun _ => ?_))
      | exact ih0 _ _ _ _ _
      | exact ih1 _ _ _ _ _ _ _
      | exact ih2 _ _ _ _ _ _ _ _ _ _
      | exact ih3 _ _ _ _ _ _ _ _ _ _ _ _
      | exact steps_Right.mono _ _
      | exact LeO.none _
      | refine LeO.ite ?_ ?_
      | refine LeO.bind ?_ (fun _ => ?_)
    · intro y0 y1 y2 y3 y4 y5 y6 y7 y8 y9
      unfold agg_Buckets.j2
      repeat' first
      | (with_reducible exact ih0 _ _ _ _ _)
      | (with_reducible exact ih1 _ _ _ _ _ _ _)
      | (with_reducible exact ih2 _ _ _ _ _ _ _ _ _ _)
      | (with_reducible exact ih3 _ _ _ _ _ _ _ _ _ _ _ _)
      | (with_reducible exact steps_Right.mono _ _)
      | (with_reducible exact LeO.refl _)
      | (with_reducible exact LeO.none _)
      | (with_reducible refine LeO.ite ?_ ?_)
      | (with_reducible refine LeO.bind ?_ (fun _ => ?_))
      | exact ih0 _ _ _ _ _
      | exact ih1 _ _ _ _ _ _ _
      | exact ih2 _ _ _ _ _ _ _ _ _ _
      | exact ih3 _ _ _ _ _ _ _ _ _ _ _ _
      | exact steps_Right.mono _ _
      | exact LeO.none _
      | refine LeO.ite ?_ ?_
      | refine LeO.bind ?_ (fun _ => ?_)
    · intro y0 y1 y2 y3 y4 y5 y6 y7 y8 y9 y10 y11
      unfold agg_Buckets.j3
      repeat' first
      | (with_reducible exact ih0 _ _ _ _ _)
      | (with_reducible exact ih1 _ _ _ _ _ _ _)
      | (with_reducible exact ih2 _ _ _ _ _ _ _ _ _ _)
      | (with_reducible exact ih3 _ _ _ _ _ _ _ _ _ _ _ _)
      | (with_reducible exact steps_Right.mono _ _)
      | (with_reducible exact LeO.refl _)
      | (with_reducible exact LeO.none _)
      | (with_reducible refine LeO.ite ?_ ?_)
      | (with_reducible refine LeO.bind ?_ (fun _ => ?_))
      | exact ih0 _ _ _ _ _
      | exact ih1 _ _ _ _ _ _ _
      | exact ih2 _ _ _ _ _ _ _ _ _ _
      | exact ih3 _ _ _ _ _ _ _ _ _ _ _ _
      | exact steps_Right.mono _ _
      | exact LeO.none _
      | refine LeO.ite ?_ ?_
      | refine LeO.bind ?_ (fun _ => ?_)
theorem agg_Buckets.mono : ∀ a0 a1 a2 a3 k, LeO (agg_Buckets.f k a0 a1 a2 a3) (agg_Buckets.f (k + 1) a0 a1 a2 a3) := by
  intro a0 a1 a2 a3 k
  obtain ⟨ih0, ih1, ih2, ih3⟩ := agg_Buckets.mono_l k
  unfold agg_Buckets.f
  repeat' first
      | (with_reducible exact ih0 _ _ _ _ _)
      | (with_reducible exact ih1 _ _ _ _ _ _ _)
      | (with_reducible exact ih2 _ _ _ _ _ _ _ _ _ _)
      | (with_reducible exact ih3 _ _ _ _ _ _ _ _ _ _ _ _)
      | (with_reducible exact steps_Right.mono _ _)
      | (with_reducible exact LeO.refl _)
      | (with_reducible exact LeO.none _)
      | (with_reducible refine LeO.ite ?_ ?_)
      | (with_reducible refine LeO.bind ?_ (fun _ => ?_))
      | exact ih0 _ _ _ _ _
      | exact ih1 _ _ _ _ _ _ _
      | exact ih2 _ _ _ _ _ _ _ _ _ _
      | exact ih3 _ _ _ _ _ _ _ _ _ _ _ _
      | exact steps_Right.mono _ _
      | exact LeO.none _
      | refine LeO.ite ?_ ?_
      | refine LeO.bind ?_ (fun _ => ?_)
def agg_Buckets.T13 : Bool × List (List Nat × List Nat) := (true, [([], []), ([], []), ([], []), ([], []), ([2, 3], [2, 3]), ([4], [4]), ([5], [5]), ([], []), ([7], [7]), ([6, 8, 8], [6, 8]), ([0, 1, 0, 1, 2, 3, 4, 5, 6, 7, 8, 9], [0, 1]), ([10, 0, 1, 2, 3, 4, 5, 6, 7, 8, 9], [10]), ([11, 9, 9, 0, 1, 2, 3, 4, 5, 6, 7, 8, 9], [9, 11])])
def agg_Buckets.B13 : List Nat := [0, 0, 0, 0, 12, 28, 60, 0, 128, 508, 1023, 2047, 4095]
theorem agg_Buckets.tab13 : rtab .any (opsOf Try.f37 13) = agg_Buckets.T13 := by kernel_rfl
theorem agg_Buckets.bits13 : waitsOk agg_Buckets.T13.2 agg_Buckets.B13 = true := by kernel_rfl
set_option maxHeartbeats 8000000 in
set_option maxRecDepth 100000 in
theorem agg_Buckets.calls (k : Nat) (A0 : Option Addr) (c0 : Nat) (l0 : List (S33)) (a1 : Int) (a2 : Int) (a3 : Int) (r1 : List (S68)) (r2 : Int) (w : World) (hr0 : Kd.C k33 w A0 l0.length l0) (hc0 : l0.length ≤ c0) (h : agg_Buckets.f k l0 a1 a2 a3 = some (r1, r2)) :
    Calls Try.prog 37 #[.slice A0 l0.length c0, .int .i64 a1, .int .i64 a2, .int .i64 a3] w fun e w' => ∃ v0_ : Value, e = .returned (.tuple #[v0_, .int .i64 r2]) ∧ Kd.R k68 68 w' w.heap.size (fun _ => True) v0_ r1 ∧ Below w.heap.size w w' := by
  have hu33 := Try.underlying33
  have hu50 := Try.underlying50
  have hu68 := Try.underlying68
  have HR0 := Aside0.mk hr0
  have HC0 := Aside0.mk hc0
  clear hr0 hc0
  have HB := Aside0.mk (Below.refl w.heap.size w)
  have H : ((steps_Right.f k l0).bind fun t430 => (if t430 = true then (if a1 ≥ a2 then (agg_Buckets.j0 k l0 a1 a2 a3 true) else (if a3 < 1 then (agg_Buckets.j0 k l0 a1 a2 a3 true) else ((agg_bad.f a1).bind fun t431 => (if t431 = true then (agg_Buckets.j0 k l0 a1 a2 a3 true) else ((agg_bad.f a2).bind fun t432 => (agg_Buckets.j0 k l0 a1 a2 a3 t432)))))) else (agg_Buckets.j0 k l0 a1 a2 a3 true))) = some (r1, r2) := h
  clear h
  have HC5 := Aside0.mk H
  clear H
  go_enter Try.func37, Try.ntmps37
  go_upto_region 1 with (fail)
  go_cut [15] (fun v15 wc => ∃ (kq : Nat) (x15_4 : Bool), v15 = .bool x15_4 ∧ Aside0 (agg_Buckets.j0 kq l0 a1 a2 a3 x15_4 = some (r1, r2)) ∧ Aside0 (kq ≤ k) ∧ Aside0 (Below w.heap.size w wc))
  case first =>
    have H := HC5.out
    clear HC5
    replace H := Option.bind_eq_some_iff.mp H
    obtain ⟨t430, A60, H⟩ := H
    replace H : (if t430 = true then (if a1 ≥ a2 then (agg_Buckets.j0 k l0 a1 a2 a3 true) else (if a3 < 1 then (agg_Buckets.j0 k l0 a1 a2 a3 true) else ((agg_bad.f a1).bind fun t431 => (if t431 = true then (agg_Buckets.j0 k l0 a1 a2 a3 true) else ((agg_bad.f a2).bind fun t432 => (agg_Buckets.j0 k l0 a1 a2 a3 t432)))))) else (agg_Buckets.j0 k l0 a1 a2 a3 true)) = some (r1, r2) := H
    have A6 := Aside0.mk A60
    clear A60
    by_cases c7 : t430 = true
    · subst c7
      have H1 : (if a1 ≥ a2 then (agg_Buckets.j0 k l0 a1 a2 a3 true) else (if a3 < 1 then (agg_Buckets.j0 k l0 a1 a2 a3 true) else ((agg_bad.f a1).bind fun t431 => (if t431 = true then (agg_Buckets.j0 k l0 a1 a2 a3 true) else ((agg_bad.f a2).bind fun t432 => (agg_Buckets.j0 k l0 a1 a2 a3 t432)))))) = some (r1, r2) := by rw [if_pos rfl] at H; exact H
      clear H
      have H := H1
      clear H1
      by_cases c8 : a1 ≥ a2
      · rw [if_pos c8] at H
        have c8b0 : decide (a2 ≤ a1) = true := decide_eq_true c8
        clear c8
        (first | rw [c8b0] | (simp only [i64_w, i32_w]; rw [c8b0]) | skip)
        have H' := Aside0.mk H
        clear H
        go_wp2_with (first | ((with_reducible refine gate_callee (f := 45) rfl ?_); refine goesL_ (some 17) rfl rfl Try.func45 (by kernel_rfl) rfl #[.slice A0 l0.length c0] rfl (by (try simp only [List.map_toArray, List.map_cons, List.map_nil]); first | done | rfl | (simp only [List.length_drop, List.length_take]; rfl)) ?_; (with_reducible refine (steps_Right.calls k _ _ l0 true _ ?side1 ?side2 A6.out).mono ?_); (case side1 => repeat (first | exact (Kd.C_below HR0.out HB.out) | (with_reducible refine Kd.C_alloc ?_ _) | (with_reducible refine Kd.C_drewN ?_ _) | (with_reducible refine Kd.C_drew ?_))); (case side2 => exact HC0.out); rintro e w' ⟨rfl, ⟨nd, rfl⟩⟩; refine ⟨_, rfl, ?_⟩))
        go_meet
        case rel => exact ⟨_, (true), (by first | rfl | (simp; done) | (simp [*]; done) | (simp <;> grind)), H', ⟨by first | omega | exact Nat.le_refl _⟩, ⟨by repeat (first | (with_reducible first | exact HB.out | apply below_alloc | apply pw_below_drewN | apply below_drew1) | exact HB.out)⟩⟩
      · rw [if_neg c8] at H
        have c8b0 : decide (a2 ≤ a1) = false := decide_eq_false c8
        clear c8
        (first | rw [c8b0] | (simp only [i64_w, i32_w]; rw [c8b0]) | skip)
        by_cases c9 : a3 < 1
        · rw [if_pos c9] at H
          have c9b0 : decide (a3 < 1) = true := decide_eq_true c9
          clear c9
          have H' := Aside0.mk H
          clear H
          go_wp2_with (first | ((with_reducible refine gate_callee (f := 45) rfl ?_); refine goesL_ (some 17) rfl rfl Try.func45 (by kernel_rfl) rfl #[.slice A0 l0.length c0] rfl (by (try simp only [List.map_toArray, List.map_cons, List.map_nil]); first | done | rfl | (simp only [List.length_drop, List.length_take]; rfl)) ?_; (with_reducible refine (steps_Right.calls k _ _ l0 true _ ?side1 ?side2 A6.out).mono ?_); (case side1 => repeat (first | exact (Kd.C_below HR0.out HB.out) | (with_reducible refine Kd.C_alloc ?_ _) | (with_reducible refine Kd.C_drewN ?_ _) | (with_reducible refine Kd.C_drew ?_))); (case side2 => exact HC0.out); rintro e w' ⟨rfl, ⟨nd, rfl⟩⟩; refine ⟨_, rfl, ?_⟩))
          go_meet
          case rel => exact ⟨_, (true), (by first | rfl | (simp; done) | (simp [*]; done) | (simp <;> grind)), H', ⟨by first | omega | exact Nat.le_refl _⟩, ⟨by repeat (first | (with_reducible first | exact HB.out | apply below_alloc | apply pw_below_drewN | apply below_drew1) | exact HB.out)⟩⟩
        · rw [if_neg c9] at H
          have c9b0 : decide (a3 < 1) = false := decide_eq_false c9
          clear c9
          replace H := Option.bind_eq_some_iff.mp H
          obtain ⟨t431, A100, H⟩ := H
          replace H : (if t431 = true then (agg_Buckets.j0 k l0 a1 a2 a3 true) else ((agg_bad.f a2).bind fun t432 => (agg_Buckets.j0 k l0 a1 a2 a3 t432))) = some (r1, r2) := H
          have A10 := Aside0.mk A100
          clear A100
          by_cases c11 : t431 = true
          · subst c11
            have H1 : (agg_Buckets.j0 k l0 a1 a2 a3 true) = some (r1, r2) := by rw [if_pos rfl] at H; exact H
            clear H
            have H := H1
            clear H1
            have H' := Aside0.mk H
            clear H
            go_wp2_with (first | ((with_reducible refine gate_callee (f := 45) rfl ?_); refine goesL_ (some 17) rfl rfl Try.func45 (by kernel_rfl) rfl #[.slice A0 l0.length c0] rfl (by (try simp only [List.map_toArray, List.map_cons, List.map_nil]); first | done | rfl | (simp only [List.length_drop, List.length_take]; rfl)) ?_; (with_reducible refine (steps_Right.calls k _ _ l0 true _ ?side1 ?side2 A6.out).mono ?_); (case side1 => repeat (first | exact (Kd.C_below HR0.out HB.out) | (with_reducible refine Kd.C_alloc ?_ _) | (with_reducible refine Kd.C_drewN ?_ _) | (with_reducible refine Kd.C_drew ?_))); (case side2 => exact HC0.out); rintro e w' ⟨rfl, ⟨nd, rfl⟩⟩; refine ⟨_, rfl, ?_⟩) | (go_at_call 48; (with_reducible refine (agg_bad.calls a1 true _ A10.out).mono ?_); rintro e w' ⟨rfl, ⟨nd, rfl⟩⟩))
            go_meet
            case rel => exact ⟨_, (true), (by first | rfl | (simp; done) | (simp [*]; done) | (simp <;> grind)), H', ⟨by first | omega | exact Nat.le_refl _⟩, ⟨by repeat (first | (with_reducible first | exact HB.out | apply below_alloc | apply pw_below_drewN | apply below_drew1) | exact HB.out)⟩⟩
          · replace c11 := Bool.eq_false_iff.mpr c11
            subst c11
            have H1 : ((agg_bad.f a2).bind fun t432 => (agg_Buckets.j0 k l0 a1 a2 a3 t432)) = some (r1, r2) := by rw [if_neg (show ¬ (false = true) by decide)] at H; exact H
            clear H
            have H := H1
            clear H1
            replace H := Option.bind_eq_some_iff.mp H
            obtain ⟨t432, A120, H⟩ := H
            replace H : (agg_Buckets.j0 k l0 a1 a2 a3 t432) = some (r1, r2) := H
            have A12 := Aside0.mk A120
            clear A120
            have H' := Aside0.mk H
            clear H
            go_wp2_with (first | ((with_reducible refine gate_callee (f := 45) rfl ?_); refine goesL_ (some 17) rfl rfl Try.func45 (by kernel_rfl) rfl #[.slice A0 l0.length c0] rfl (by (try simp only [List.map_toArray, List.map_cons, List.map_nil]); first | done | rfl | (simp only [List.length_drop, List.length_take]; rfl)) ?_; (with_reducible refine (steps_Right.calls k _ _ l0 true _ ?side1 ?side2 A6.out).mono ?_); (case side1 => repeat (first | exact (Kd.C_below HR0.out HB.out) | (with_reducible refine Kd.C_alloc ?_ _) | (with_reducible refine Kd.C_drewN ?_ _) | (with_reducible refine Kd.C_drew ?_))); (case side2 => exact HC0.out); rintro e w' ⟨rfl, ⟨nd, rfl⟩⟩; refine ⟨_, rfl, ?_⟩) | (go_at_call 48; (with_reducible refine (agg_bad.calls a1 false _ A10.out).mono ?_); rintro e w' ⟨rfl, ⟨nd, rfl⟩⟩) | (go_at_call 48; (with_reducible refine (agg_bad.calls a2 t432 _ A12.out).mono ?_); rintro e w' ⟨rfl, ⟨nd, rfl⟩⟩))
            go_meet
            case rel => exact ⟨_, (t432), (by first | rfl | (simp; done) | (simp [*]; done) | (simp <;> grind)), H', ⟨by first | omega | exact Nat.le_refl _⟩, ⟨by repeat (first | (with_reducible first | exact HB.out | apply below_alloc | apply pw_below_drewN | apply below_drew1) | exact HB.out)⟩⟩
    · replace c7 := Bool.eq_false_iff.mpr c7
      subst c7
      have H1 : (agg_Buckets.j0 k l0 a1 a2 a3 true) = some (r1, r2) := by rw [if_neg (show ¬ (false = true) by decide)] at H; exact H
      clear H
      have H := H1
      clear H1
      have H' := Aside0.mk H
      clear H
      go_wp2_with (first | ((with_reducible refine gate_callee (f := 45) rfl ?_); refine goesL_ (some 17) rfl rfl Try.func45 (by kernel_rfl) rfl #[.slice A0 l0.length c0] rfl (by (try simp only [List.map_toArray, List.map_cons, List.map_nil]); first | done | rfl | (simp only [List.length_drop, List.length_take]; rfl)) ?_; (with_reducible refine (steps_Right.calls k _ _ l0 false _ ?side1 ?side2 A6.out).mono ?_); (case side1 => repeat (first | exact (Kd.C_below HR0.out HB.out) | (with_reducible refine Kd.C_alloc ?_ _) | (with_reducible refine Kd.C_drewN ?_ _) | (with_reducible refine Kd.C_drew ?_))); (case side2 => exact HC0.out); rintro e w' ⟨rfl, ⟨nd, rfl⟩⟩; refine ⟨_, rfl, ?_⟩))
      go_meet
      case rel => exact ⟨_, (true), (by first | rfl | (simp; done) | (simp [*]; done) | (simp <;> grind)), H', ⟨by first | omega | exact Nat.le_refl _⟩, ⟨by repeat (first | (with_reducible first | exact HB.out | apply below_alloc | apply pw_below_drewN | apply below_drew1) | exact HB.out)⟩⟩
  case rest =>
    clear HC5
    try clear c1
    try clear p2
    try clear c3
    try clear c4
    try clear c7
    try clear c8
    try clear c8b0
    try clear c9
    try clear c9b0
    try clear c11
    obtain ⟨kq, x15_4, rfl, HA, HJ4, HB⟩ := hcut
    cases kq with
    | zero => exact absurd HA.out (by simp [agg_Buckets.j0])
    | succ kj4 =>
      have H := HA.out
      clear HA
      simp only [agg_Buckets.j0] at H
      by_cases c13 : x15_4 = true
      · subst c13
        have H1 : (some (([] : List (S68)), 1)) = some (r1, r2) := by rw [if_pos rfl] at H; exact H
        clear H
        have H := H1
        clear H1
        simp only [Option.some.injEq, Prod.mk.injEq] at H
        obtain ⟨rfl, rfl⟩ := H
        go_wp2
        go_ret2
        exact ⟨_, by first | rfl | (simp [errW_none, errW_some] <;> rfl) | (simp [*, errW_none, errW_some] <;> rfl), by first | exact Kd.R_nil _ _ _ _ _ | exact Kd.N_nil _ _ _ _ _ | exact Kd.V_nil _ _ _ _ _ | exact Kd.Q_nil _ _ _ _ _ | exact Kd.S_nil _ _ _ _ _, by repeat (first | (with_reducible first | exact HB.out | apply below_alloc | apply pw_below_drewN | apply below_drew1) | exact HB.out)⟩
      · replace c13 := Bool.eq_false_iff.mpr c13
        subst c13
        have H1 : (if a3 = 0 then (none) else (if (wrap64 (Int.tdiv (wrap64 ((wrap64 (a2 - a1)) - 1)) a3)) ≥ 200 then (some (([] : List (S68)), 3)) else (agg_Buckets.l0 kj4 a1 a2 a3 ([] : List (S68)) l0 (l0.length : Int) 0))) = some (r1, r2) := by rw [if_neg (show ¬ (false = true) by decide)] at H; exact H
        clear H
        have H := H1
        clear H1
        by_cases c14 : a3 = 0
        · rw [if_pos c14] at H
          exact absurd H (by simp)
        · rw [if_neg c14] at H
          have c14b0 : (a3 == 0) = false := beq_eq_false_iff_ne.mpr c14
          have c14b1 : (a3 != 0) = true := bne_iff_ne.mpr c14
          by_cases c15 : (wrap64 (Int.tdiv (wrap64 ((wrap64 (a2 - a1)) - 1)) a3)) ≥ 200
          · rw [if_pos c15] at H
            have c15b0 : decide (200 ≤ (wrap64 (Int.tdiv (wrap64 ((wrap64 (a2 - a1)) - 1)) a3))) = true := decide_eq_true c15
            clear c15
            simp only [Option.some.injEq, Prod.mk.injEq] at H
            obtain ⟨rfl, rfl⟩ := H
            go_wp2
            go_ret2
            exact ⟨_, by first | rfl | (simp [errW_none, errW_some] <;> rfl) | (simp [*, errW_none, errW_some] <;> rfl), by first | exact Kd.R_nil _ _ _ _ _ | exact Kd.N_nil _ _ _ _ _ | exact Kd.V_nil _ _ _ _ _ | exact Kd.Q_nil _ _ _ _ _ | exact Kd.S_nil _ _ _ _ _, by repeat (first | (with_reducible first | exact HB.out | apply below_alloc | apply pw_below_drewN | apply below_drew1) | exact HB.out)⟩
          · rw [if_neg c15] at H
            have c15b0 : decide (200 ≤ (wrap64 (Int.tdiv (wrap64 ((wrap64 (a2 - a1)) - 1)) a3))) = false := decide_eq_false c15
            clear c15
            have H' := Aside0.mk H
            clear H
            go_wp2
            go_loopg [10, 46] kj4 (fun kq v10 v46 w' => ∃ (x10_2 : List (S68)) (x46_2 : Int), v46 = .int .i64 x46_2 ∧ Aside0 (agg_Buckets.l0 kq a1 a2 a3 x10_2 l0 (l0.length : Int) x46_2 = some (r1, r2)) ∧ Aside0 (kq ≤ kj4) ∧ Aside0 (Kd.R k68 68 w' w.heap.size (fun _ => True) v10 x10_2) ∧ Aside0 (Below w.heap.size w w'))
            case atStart => exact ⟨(([] : List (S68))), (0), (by first | rfl | (simp; done) | (simp [*]; done) | (simp <;> grind)), H', ⟨Nat.le_refl _⟩, ⟨by first | exact Kd.R_nil _ _ _ _ _ | exact Kd.N_nil _ _ _ _ _ | exact Kd.V_nil _ _ _ _ _ | exact Kd.Q_nil _ _ _ _ _ | exact Kd.S_nil _ _ _ _ _⟩, ⟨by repeat (first | (with_reducible first | exact HB.out | apply below_alloc | apply pw_below_drewN | apply below_drew1) | exact HB.out)⟩⟩
            case round =>
              clear H'
              try clear c1
              try clear p2
              try clear c3
              try clear c4
              try clear p6
              try clear c7
              try clear c8
              try clear c8b0
              try clear c9
              try clear c9b0
              try clear c11
              try clear c13
              try clear c14
              try clear c14b0
              try clear c14b1
              try clear c15
              try clear c15b0
              try clear p2
              obtain ⟨x10_2, x46_2, rfl, HA, HK2, HO_10, HB⟩ := hrel
              cases gk with
              | zero => exact absurd HA.out (by simp [agg_Buckets.l0])
              | succ k2 =>
                have H := HA.out
                clear HA
                simp only [agg_Buckets.l0] at H
                by_cases c16 : x46_2 < (l0.length : Int)
                · rw [if_pos c16] at H
                  have c16b0 : decide (x46_2 < (l0.length : Int)) = true := decide_eq_true c16
                  clear c16
                  by_cases c17 : 0 ≤ x46_2
                  · rw [if_pos c17] at H
                    have c17b0 : decide (0 ≤ x46_2) = true := decide_eq_true c17
                    clear c17
                    by_cases c18 : x46_2 < (l0.length : Int)
                    · rw [if_pos c18] at H
                      have c18b0 : decide (x46_2 < (l0.length : Int)) = true := decide_eq_true c18
                      clear c18
                      have HC19 := Aside0.mk H
                      clear H
                      have p433 : 0 ≤ (x46_2 : Int) := of_decide_eq_true (by first | (with_reducible assumption) | assumption)
                      have q433 : x46_2 < (l0.length : Int) := of_decide_eq_true (by first | (with_reducible assumption) | assumption)
                      obtain ⟨ad433, e433, hx433_0, hx433_1⟩ := at_T33 HR0.out x46_2 p433 q433
                      cases e433
                      replace hx433_0 := (HB.out.cell (World.block_lt_of_cell? w _ hx433_0)).trans hx433_0
                      replace hx433_1 := (HB.out.cell (World.block_lt_of_cell? w _ hx433_1)).trans hx433_1
                      replace p433 := eq_true p433
                      replace q433 := eq_true q433
                      go_upto_region 9 with (first | ((with_reducible refine gate_dst (N := 12) rfl ?_); refine box_event ?hg (N := 12) ?hd (cs := #[.int .i64 0, .int .i64 0]) (t := 33) ?hr ?_; (case hd => rfl); (case hg => rfl); (case hr => first | (go_simp; done) | (go_simp; rfl)); intro gb434 hg w20 hbox hb; have n0_ := Aside0.mk (Kd.R_below (by (with_reducible repeat (first | apply Kd.R_alloc | apply Kd.R_drewN | apply Kd.R_drew)); exact HO_10.out) hb); have n1_ := Aside0.mk (below_step (by repeat (first | (with_reducible first | exact HB.out | apply below_alloc | apply pw_below_drewN | apply below_drew1) | exact HB.out)) hb); have n2_ := Aside0.mk (hbox); have n3_ := Aside0.mk ((by rw [hg]; exact (below_size (by repeat (first | (with_reducible first | exact HB.out | apply below_alloc | apply pw_below_drewN | apply below_drew1) | exact HB.out))) : w.heap.size ≤ gb434)); have n4_ := Aside0.mk ((by rw [hg]; exact (below_size (by repeat (first | (with_reducible first | exact HB.out | apply below_alloc | apply pw_below_drewN | apply below_drew1) | exact HB.out))) : w.heap.size ≤ gb434)); clear HO_10; clear HB; have HO_10 := n0_; have HB := n1_; have BK434 := n2_; have GW434 := n3_; have GE434 := n4_; clear n0_ n1_ n2_ n3_ n4_; clear hb hbox hg; have hcz21_0 : w20.cell? ⟨gb434, 0, none⟩ = some (.int .i64 0) := (blk_cell BK434.out 0).trans rfl; have hcz21_1 : w20.cell? ⟨gb434, 1, none⟩ = some (.int .i64 0) := (blk_cell BK434.out 1).trans rfl; have hfz21_0 := blk_frozen BK434.out 0; have hfz21_1 := blk_frozen BK434.out 1))
                      (try simp only [Act.put, List.setIfInBounds_toArray, List.set_cons_zero, List.set_cons_succ])
                      go_cut [59] (fun v59 wc => ∃ (kq : Nat) (x59_18 : Bool), v59 = .bool x59_18 ∧ Aside0 (agg_Buckets.j2 kq a1 a2 a3 x10_2 l0 (l0.length : Int) x46_2 x59_18 ((rd_T33 l0 x46_2).f0) ((rd_T33 l0 x46_2).f1) = some (r1, r2)) ∧ Aside0 (kq ≤ k2) ∧ Aside0 (Kd.R k68 68 wc w.heap.size (fun _ => True) u10 x10_2) ∧ Aside0 (wc.heap[gb434]? = some (.cells #[.int .i64 ((rd_T33 l0 x46_2).f0), .int .i64 ((rd_T33 l0 x46_2).f1)] 33 (0, 0))) ∧ Aside0 (Below w.heap.size w wc))
                      case first =>
                        have H := HC19.out
                        clear HC19
                        by_cases c22 : ((rd_T33 l0 x46_2).f0) < a1
                        · rw [if_pos c22] at H
                          have c22b0 : decide (((rd_T33 l0 x46_2).f0) < a1) = true := decide_eq_true c22
                          clear c22
                          (first | rw [c22b0] | (simp only [i64_w, i32_w]; rw [c22b0]) | skip)
                          have H' := Aside0.mk H
                          clear H
                          have hcz23_0 : w20.cell? ⟨gb434, 0, none⟩ = some (.int .i64 0) := (blk_cell BK434.out 0).trans rfl
                          have hcz23_1 : w20.cell? ⟨gb434, 1, none⟩ = some (.int .i64 0) := (blk_cell BK434.out 1).trans rfl
                          have hfz23_0 := blk_frozen BK434.out 0
                          have hfz23_1 := blk_frozen BK434.out 1
                          go_wp2
                          go_meet
                          case rel => exact ⟨_, (true), (by first | rfl | (simp; done) | (simp [*]; done) | (simp <;> grind)), H', ⟨by have := HJ4.out; have := HK2.out; first | omega | exact Nat.le_refl _⟩, ⟨by (with_reducible repeat (first | apply Kd.R_alloc | apply Kd.R_drewN | apply Kd.R_drew)); exact Kd.R_mono (Kd.R_far (p := ⟨gb434, 1, none⟩) (Kd.R_far (p := ⟨gb434, 0, none⟩) (Kd.R_types HO_10.out BK434.out (by decide)) (fun _ hk => hk.2) (.int .i64 ((rd_T33 l0 x46_2).f0))) (fun _ hk => hk.2) (.int .i64 ((rd_T33 l0 x46_2).f1))) (fun _ hk => trivial)⟩, ⟨by (with_reducible repeat (first | refine blk_drewN ?_ _ | refine blk_drew ?_ | refine blk_alloc ?_ _)); refine blk_put (cs := #[.int .i64 ((rd_T33 l0 x46_2).f0), .int .i64 0]) ?_ 1 _ rfl; (with_reducible repeat (first | refine blk_drewN ?_ _ | refine blk_drew ?_ | refine blk_alloc ?_ _)); refine blk_put (cs := #[.int .i64 0, .int .i64 0]) ?_ 0 _ rfl; (with_reducible repeat (first | refine blk_drewN ?_ _ | refine blk_drew ?_ | refine blk_alloc ?_ _)); exact BK434.out⟩, ⟨by repeat (first | (with_reducible first | exact HB.out | apply below_alloc | apply pw_below_drewN | apply below_drew1 | refine below_set ?_ GE434.out) | exact HB.out)⟩⟩
                        · rw [if_neg c22] at H
                          have c22b0 : decide (((rd_T33 l0 x46_2).f0) < a1) = false := decide_eq_false c22
                          clear c22
                          (first | rw [c22b0] | (simp only [i64_w, i32_w]; rw [c22b0]) | skip)
                          have H' := Aside0.mk H
                          clear H
                          have hcz24_0 : w20.cell? ⟨gb434, 0, none⟩ = some (.int .i64 0) := (blk_cell BK434.out 0).trans rfl
                          have hcz24_1 : w20.cell? ⟨gb434, 1, none⟩ = some (.int .i64 0) := (blk_cell BK434.out 1).trans rfl
                          have hfz24_0 := blk_frozen BK434.out 0
                          have hfz24_1 := blk_frozen BK434.out 1
                          go_wp2
                          go_meet
                          case rel => exact ⟨_, (decide (((rd_T33 l0 x46_2).f0) ≥ a2)), (by first | rfl | (simp; done) | (simp [*]; done) | (simp <;> grind)), H', ⟨by have := HJ4.out; have := HK2.out; first | omega | exact Nat.le_refl _⟩, ⟨by (with_reducible repeat (first | apply Kd.R_alloc | apply Kd.R_drewN | apply Kd.R_drew)); exact Kd.R_mono (Kd.R_far (p := ⟨gb434, 1, none⟩) (Kd.R_far (p := ⟨gb434, 0, none⟩) (Kd.R_types HO_10.out BK434.out (by decide)) (fun _ hk => hk.2) (.int .i64 ((rd_T33 l0 x46_2).f0))) (fun _ hk => hk.2) (.int .i64 ((rd_T33 l0 x46_2).f1))) (fun _ hk => trivial)⟩, ⟨by (with_reducible repeat (first | refine blk_drewN ?_ _ | refine blk_drew ?_ | refine blk_alloc ?_ _)); refine blk_put (cs := #[.int .i64 ((rd_T33 l0 x46_2).f0), .int .i64 0]) ?_ 1 _ rfl; (with_reducible repeat (first | refine blk_drewN ?_ _ | refine blk_drew ?_ | refine blk_alloc ?_ _)); refine blk_put (cs := #[.int .i64 0, .int .i64 0]) ?_ 0 _ rfl; (with_reducible repeat (first | refine blk_drewN ?_ _ | refine blk_drew ?_ | refine blk_alloc ?_ _)); exact BK434.out⟩, ⟨by repeat (first | (with_reducible first | exact HB.out | apply below_alloc | apply pw_below_drewN | apply below_drew1 | refine below_set ?_ GE434.out) | exact HB.out)⟩⟩
                      case rest =>
                        clear HC19
                        try clear c1
                        try clear c2
                        try clear p2
                        try clear c3
                        try clear c4
                        try clear p4
                        try clear q4
                        try clear hx4
                        try clear p6
                        try clear c7
                        try clear c8
                        try clear c8b0
                        try clear c9
                        try clear c9b0
                        try clear c11
                        try clear c13
                        try clear c14
                        try clear c14b0
                        try clear c14b1
                        try clear c15
                        try clear c15b0
                        try clear c16
                        try clear c16b0
                        try clear c17
                        try clear c17b0
                        try clear c18
                        try clear c18b0
                        try clear c22
                        try clear c22b0
                        try clear hcz21_0
                        try clear hcz21_1
                        try clear hcz23_0
                        try clear hcz23_1
                        try clear hcz24_0
                        try clear hcz24_1
                        try clear hfz21_0
                        try clear hfz21_1
                        try clear hfz23_0
                        try clear hfz23_1
                        try clear hfz24_0
                        try clear hfz24_1
                        try clear hx433_0
                        try clear hx433_1
                        try clear p2
                        try clear p433
                        try clear p6
                        try clear q433
                        obtain ⟨kq, x59_18, rfl, HA, HJ18, HO_10, BK434, HB⟩ := hcut
                        cases kq with
                        | zero => exact absurd HA.out (by simp [agg_Buckets.j2])
                        | succ kj18 =>
                          have H := HA.out
                          clear HA
                          simp only [agg_Buckets.j2] at H
                          by_cases c25 : x59_18 = true
                          · subst c25
                            have H1 : (agg_Buckets.l0 kj18 a1 a2 a3 x10_2 l0 (l0.length : Int) (wrap64 (x46_2 + 1))) = some (r1, r2) := by rw [if_pos rfl] at H; exact H
                            clear H
                            have H := H1
                            clear H1
                            have H' := Aside0.mk H
                            clear H
                            go_wp2
                            go_roundg kj18
                            case measure => have := HJ4.out; have := HK2.out; have := HJ18.out; omega
                            case rel => exact ⟨(x10_2), (wrap64 (x46_2 + 1)), (by first | rfl | (simp; done) | (simp [*]; done) | (simp <;> grind)), H', ⟨by have := HJ4.out; have := HK2.out; have := HJ18.out; omega⟩, ⟨by (with_reducible repeat (first | apply Kd.R_alloc | apply Kd.R_drewN | apply Kd.R_drew)); exact HO_10.out⟩, ⟨by repeat (first | (with_reducible first | exact HB.out | apply below_alloc | apply pw_below_drewN | apply below_drew1 | refine below_set ?_ GE434.out) | exact HB.out)⟩⟩
                          · replace c25 := Bool.eq_false_iff.mpr c25
                            subst c25
                            have H1 : (if a3 = 0 then (none) else (if (wrap64 ((x10_2.length : Int) - 1)) ≥ 0 then (if 0 ≤ (wrap64 ((x10_2.length : Int) - 1)) then (if (wrap64 ((x10_2.length : Int) - 1)) < (x10_2.length : Int) then (agg_Buckets.j3 kj18 a1 a2 a3 x10_2 (wrap64 (a1 + (wrap64 ((wrap64 (Int.tdiv (wrap64 (((rd_T33 l0 x46_2).f0) - a1)) a3)) * a3)))) (wrap64 ((x10_2.length : Int) - 1)) l0 (l0.length : Int) x46_2 (((rd_T68 x10_2 (wrap64 ((x10_2.length : Int) - 1))).f0) == (wrap64 (a1 + (wrap64 ((wrap64 (Int.tdiv (wrap64 (((rd_T33 l0 x46_2).f0) - a1)) a3)) * a3))))) ((rd_T33 l0 x46_2).f0) ((rd_T33 l0 x46_2).f1)) else (none)) else (none)) else (agg_Buckets.j3 kj18 a1 a2 a3 x10_2 (wrap64 (a1 + (wrap64 ((wrap64 (Int.tdiv (wrap64 (((rd_T33 l0 x46_2).f0) - a1)) a3)) * a3)))) (wrap64 ((x10_2.length : Int) - 1)) l0 (l0.length : Int) x46_2 false ((rd_T33 l0 x46_2).f0) ((rd_T33 l0 x46_2).f1)))) = some (r1, r2) := by rw [if_neg (show ¬ (false = true) by decide)] at H; exact H
                            clear H
                            have H := H1
                            clear H1
                            by_cases c26 : a3 = 0
                            · rw [if_pos c26] at H
                              exact absurd H (by simp)
                            · rw [if_neg c26] at H
                              have c26b0 : (a3 == 0) = false := beq_eq_false_iff_ne.mpr c26
                              have c26b1 : (a3 != 0) = true := bne_iff_ne.mpr c26
                              have HC27 := Aside0.mk H
                              clear H
                              have hcz28_0 : wc.cell? ⟨gb434, 0, none⟩ = some (.int .i64 ((rd_T33 l0 x46_2).f0)) := (blk_cell BK434.out 0).trans rfl
                              have hcz28_1 : wc.cell? ⟨gb434, 1, none⟩ = some (.int .i64 ((rd_T33 l0 x46_2).f1)) := (blk_cell BK434.out 1).trans rfl
                              have hfz28_0 := blk_frozen BK434.out 0
                              have hfz28_1 := blk_frozen BK434.out 1
                              obtain ⟨Ao29, co29, eo29⟩ := Kd.R_slice HO_10.out
                              subst eo29
                              go_upto_region 12 with (fail)
                              go_cut [83] (fun v83 wc => ∃ (kq : Nat) (x83_26 : Bool), v83 = .bool x83_26 ∧ Aside0 (agg_Buckets.j3 kq a1 a2 a3 x10_2 (wrap64 (a1 + (wrap64 ((wrap64 (Int.tdiv (wrap64 (((rd_T33 l0 x46_2).f0) - a1)) a3)) * a3)))) (wrap64 ((x10_2.length : Int) - 1)) l0 (l0.length : Int) x46_2 x83_26 ((rd_T33 l0 x46_2).f0) ((rd_T33 l0 x46_2).f1) = some (r1, r2)) ∧ Aside0 (kq ≤ kj18) ∧ Aside0 (Kd.R k68 68 wc w.heap.size (fun _ => True) (.slice Ao29 x10_2.length co29) x10_2) ∧ Aside0 (wc.heap[gb434]? = some (.cells #[.int .i64 ((rd_T33 l0 x46_2).f0), .int .i64 ((rd_T33 l0 x46_2).f1)] 33 (0, 0))) ∧ Aside0 (Below w.heap.size w wc))
                              case first =>
                                have H := HC27.out
                                clear HC27
                                by_cases c30 : (wrap64 ((x10_2.length : Int) - 1)) ≥ 0
                                · rw [if_pos c30] at H
                                  have c30b0 : decide (0 ≤ (wrap64 ((x10_2.length : Int) - 1))) = true := decide_eq_true c30
                                  clear c30
                                  (first | rw [c30b0] | (simp only [i64_w, i32_w]; rw [c30b0]) | skip)
                                  obtain ⟨ji31, hji31⟩ : ∃ j_ : Int, (wrap64 ((x10_2.length : Int) - 1)) = j_ := ⟨_, rfl⟩
                                  replace H : (if 0 ≤ (ji31) then (if (ji31) < (x10_2.length : Int) then (agg_Buckets.j3 kj18 a1 a2 a3 x10_2 (wrap64 (a1 + (wrap64 ((wrap64 (Int.tdiv (wrap64 (((rd_T33 l0 x46_2).f0) - a1)) a3)) * a3)))) ji31 l0 (l0.length : Int) x46_2 (((rd_T68 x10_2 (ji31)).f0) == (wrap64 (a1 + (wrap64 ((wrap64 (Int.tdiv (wrap64 (((rd_T33 l0 x46_2).f0) - a1)) a3)) * a3))))) ((rd_T33 l0 x46_2).f0) ((rd_T33 l0 x46_2).f1)) else (none)) else (none)) = some (r1, r2) := by first | (rw [hji31] at H; exact H) | (simp only [hji31] at H ⊢; exact H)
                                  (try rw [hji31] at c30b0)
                                  have hji31w : (IntKind.i64.wrap ((x10_2.length : Int) - 1)) = ji31 := (i64_w _).trans hji31
                                  by_cases c32 : 0 ≤ (ji31)
                                  · rw [if_pos c32] at H
                                    have c32b0 : decide (0 ≤ (ji31)) = true := decide_eq_true c32
                                    clear c32
                                    by_cases c33 : (ji31) < (x10_2.length : Int)
                                    · rw [if_pos c33] at H
                                      have c33b0 : decide ((ji31) < (x10_2.length : Int)) = true := decide_eq_true c33
                                      clear c33
                                      have H' := Aside0.mk H
                                      clear H
                                      have p435 : 0 ≤ ((ji31) : Int) := of_decide_eq_true (by first | (with_reducible assumption) | assumption)
                                      have q435 : (ji31) < (x10_2.length : Int) := of_decide_eq_true (by first | (with_reducible assumption) | assumption)
                                      obtain ⟨ad435, e435, hx435_0, hx435_1, hx435_2, hx435_3, hx435_4, hx435_5, hx435_6⟩ := at_T68 (Kd.R_reads' HO_10.out).2.2 (ji31) p435 q435
                                      cases e435
                                      replace p435 := eq_true p435
                                      replace q435 := eq_true q435
                                      go_wp2
                                      go_meet
                                      case rel => exact ⟨_, ((((rd_T68 x10_2 (ji31)).f0) == (wrap64 (a1 + (wrap64 ((wrap64 (Int.tdiv (wrap64 (((rd_T33 l0 x46_2).f0) - a1)) a3)) * a3)))))), (by first | rfl | (simp; done) | (simp only [← hji31] <;> (first | rfl | simp)) | (simp [*]; done) | (simp <;> grind)), (by first | exact H' | (simp only [hji31]; exact H')), ⟨by have := HJ4.out; have := HK2.out; have := HJ18.out; first | omega | exact Nat.le_refl _⟩, ⟨by (with_reducible repeat (first | apply Kd.R_alloc | apply Kd.R_drewN | apply Kd.R_drew)); exact HO_10.out⟩, ⟨by (with_reducible repeat (first | refine blk_drewN ?_ _ | refine blk_drew ?_ | refine blk_alloc ?_ _)); exact BK434.out⟩, ⟨by repeat (first | (with_reducible first | exact HB.out | apply below_alloc | apply pw_below_drewN | apply below_drew1 | refine below_set ?_ GE434.out) | exact HB.out)⟩⟩
                                    · rw [if_neg c33] at H
                                      exact absurd H (by simp)
                                  · rw [if_neg c32] at H
                                    exact absurd H (by simp)
                                · rw [if_neg c30] at H
                                  have c30b0 : decide (0 ≤ (wrap64 ((x10_2.length : Int) - 1))) = false := decide_eq_false c30
                                  clear c30
                                  (first | rw [c30b0] | (simp only [i64_w, i32_w]; rw [c30b0]) | skip)
                                  have H' := Aside0.mk H
                                  clear H
                                  go_wp2
                                  go_meet
                                  case rel => exact ⟨_, (false), (by first | rfl | (simp; done) | (simp [*]; done) | (simp <;> grind)), H', ⟨by have := HJ4.out; have := HK2.out; have := HJ18.out; first | omega | exact Nat.le_refl _⟩, ⟨by (with_reducible repeat (first | apply Kd.R_alloc | apply Kd.R_drewN | apply Kd.R_drew)); exact HO_10.out⟩, ⟨by (with_reducible repeat (first | refine blk_drewN ?_ _ | refine blk_drew ?_ | refine blk_alloc ?_ _)); exact BK434.out⟩, ⟨by repeat (first | (with_reducible first | exact HB.out | apply below_alloc | apply pw_below_drewN | apply below_drew1 | refine below_set ?_ GE434.out) | exact HB.out)⟩⟩
                              case rest =>
                                clear HC27
                                try clear c1
                                try clear c2
                                try clear p2
                                try clear c3
                                try clear c4
                                try clear p4
                                try clear q4
                                try clear hx4
                                try clear p6
                                try clear c7
                                try clear c8
                                try clear c8b0
                                try clear c9
                                try clear c9b0
                                try clear c11
                                try clear c13
                                try clear c14
                                try clear c14b0
                                try clear c14b1
                                try clear c15
                                try clear c15b0
                                try clear c16
                                try clear c16b0
                                try clear c17
                                try clear c17b0
                                try clear c18
                                try clear c18b0
                                try clear c22
                                try clear c22b0
                                try clear c25
                                try clear c26
                                try clear c26b0
                                try clear c26b1
                                try clear c30
                                try clear c30b0
                                try clear c32
                                try clear c32b0
                                try clear c33
                                try clear c33b0
                                try clear hcz21_0
                                try clear hcz21_1
                                try clear hcz23_0
                                try clear hcz23_1
                                try clear hcz24_0
                                try clear hcz24_1
                                try clear hcz28_0
                                try clear hcz28_1
                                try clear hfz21_0
                                try clear hfz21_1
                                try clear hfz23_0
                                try clear hfz23_1
                                try clear hfz24_0
                                try clear hfz24_1
                                try clear hfz28_0
                                try clear hfz28_1
                                try clear hx433_0
                                try clear hx433_1
                                try clear hx435_0
                                try clear hx435_1
                                try clear hx435_2
                                try clear hx435_3
                                try clear hx435_4
                                try clear hx435_5
                                try clear hx435_6
                                try clear p2
                                try clear p4
                                try clear p433
                                try clear p435
                                try clear p6
                                try clear q4
                                try clear q433
                                try clear q435
                                obtain ⟨kq, x83_26, rfl, HA, HJ26, HO_10, BK434, HB⟩ := hcut
                                cases kq with
                                | zero => exact absurd HA.out (by simp [agg_Buckets.j3])
                                | succ kj26 =>
                                  have H := HA.out
                                  clear HA
                                  simp only [agg_Buckets.j3] at H
                                  by_cases c34 : x83_26 = true
                                  · subst c34
                                    have H1 : (if 0 ≤ (wrap64 ((x10_2.length : Int) - 1)) then (if (wrap64 ((x10_2.length : Int) - 1)) < (x10_2.length : Int) then ((agg_one.f ((rd_T33 l0 x46_2).f0) ((rd_T33 l0 x46_2).f1)).bind fun bt437 => ((agg_Join.f ((rd_T68 x10_2 (wrap64 ((x10_2.length : Int) - 1))).f1.f0) ((rd_T68 x10_2 (wrap64 ((x10_2.length : Int) - 1))).f1.f1) ((rd_T68 x10_2 (wrap64 ((x10_2.length : Int) - 1))).f1.f2) ((rd_T68 x10_2 (wrap64 ((x10_2.length : Int) - 1))).f1.f3) ((rd_T68 x10_2 (wrap64 ((x10_2.length : Int) - 1))).f1.f4) ((rd_T68 x10_2 (wrap64 ((x10_2.length : Int) - 1))).f1.f5) bt437.1 bt437.2.1 bt437.2.2.1 bt437.2.2.2.1 bt437.2.2.2.2.1 bt437.2.2.2.2.2).bind fun bt443 => (agg_Buckets.l0 kj26 a1 a2 a3 (x10_2.set ((wrap64 ((x10_2.length : Int) - 1)) : Int).toNat (⟨(rd_T68 x10_2 (wrap64 ((x10_2.length : Int) - 1))).f0, (⟨bt443.1, bt443.2.1, bt443.2.2.1, bt443.2.2.2.1, bt443.2.2.2.2.1, bt443.2.2.2.2.2⟩ : S50)⟩ : S68)) l0 (l0.length : Int) (wrap64 (x46_2 + 1))))) else (none)) else (none)) = some (r1, r2) := by rw [if_pos rfl] at H; exact H
                                    clear H
                                    have H := H1
                                    clear H1
                                    obtain ⟨ji35, hji35⟩ : ∃ j_ : Int, (wrap64 ((x10_2.length : Int) - 1)) = j_ := ⟨_, rfl⟩
                                    replace H : (if 0 ≤ (ji35) then (if (ji35) < (x10_2.length : Int) then ((agg_one.f ((rd_T33 l0 x46_2).f0) ((rd_T33 l0 x46_2).f1)).bind fun bt437 => ((agg_Join.f ((rd_T68 x10_2 (ji35)).f1.f0) ((rd_T68 x10_2 (ji35)).f1.f1) ((rd_T68 x10_2 (ji35)).f1.f2) ((rd_T68 x10_2 (ji35)).f1.f3) ((rd_T68 x10_2 (ji35)).f1.f4) ((rd_T68 x10_2 (ji35)).f1.f5) bt437.1 bt437.2.1 bt437.2.2.1 bt437.2.2.2.1 bt437.2.2.2.2.1 bt437.2.2.2.2.2).bind fun bt443 => (agg_Buckets.l0 kj26 a1 a2 a3 (x10_2.set ((ji35) : Int).toNat (⟨(rd_T68 x10_2 (ji35)).f0, (⟨bt443.1, bt443.2.1, bt443.2.2.1, bt443.2.2.2.1, bt443.2.2.2.2.1, bt443.2.2.2.2.2⟩ : S50)⟩ : S68)) l0 (l0.length : Int) (wrap64 (x46_2 + 1))))) else (none)) else (none)) = some (r1, r2) := by first | (rw [hji35] at H; exact H) | (simp only [hji35] at H ⊢; exact H)
                                    have hji35w : (IntKind.i64.wrap ((x10_2.length : Int) - 1)) = ji35 := (i64_w _).trans hji35
                                    by_cases c36 : 0 ≤ (ji35)
                                    · rw [if_pos c36] at H
                                      have c36b0 : decide (0 ≤ (ji35)) = true := decide_eq_true c36
                                      clear c36
                                      by_cases c37 : (ji35) < (x10_2.length : Int)
                                      · rw [if_pos c37] at H
                                        have c37b0 : decide ((ji35) < (x10_2.length : Int)) = true := decide_eq_true c37
                                        clear c37
                                        replace H := Option.bind_eq_some_iff.mp H
                                        obtain ⟨⟨t437, t438, t439, t440, t441, t442⟩, A380, H⟩ := H
                                        replace H : ((agg_Join.f ((rd_T68 x10_2 (ji35)).f1.f0) ((rd_T68 x10_2 (ji35)).f1.f1) ((rd_T68 x10_2 (ji35)).f1.f2) ((rd_T68 x10_2 (ji35)).f1.f3) ((rd_T68 x10_2 (ji35)).f1.f4) ((rd_T68 x10_2 (ji35)).f1.f5) t437 t438 t439 t440 t441 t442).bind fun bt443 => (agg_Buckets.l0 kj26 a1 a2 a3 (x10_2.set ((ji35) : Int).toNat (⟨(rd_T68 x10_2 (ji35)).f0, (⟨bt443.1, bt443.2.1, bt443.2.2.1, bt443.2.2.2.1, bt443.2.2.2.2.1, bt443.2.2.2.2.2⟩ : S50)⟩ : S68)) l0 (l0.length : Int) (wrap64 (x46_2 + 1)))) = some (r1, r2) := H
                                        have A38 := Aside0.mk A380
                                        clear A380
                                        replace H := Option.bind_eq_some_iff.mp H
                                        obtain ⟨⟨t443, t444, t445, t446, t447, t448⟩, A390, H⟩ := H
                                        replace H : (agg_Buckets.l0 kj26 a1 a2 a3 (x10_2.set ((ji35) : Int).toNat (⟨(rd_T68 x10_2 (ji35)).f0, (⟨t443, t444, t445, t446, t447, t448⟩ : S50)⟩ : S68)) l0 (l0.length : Int) (wrap64 (x46_2 + 1))) = some (r1, r2) := H
                                        have A39 := Aside0.mk A390
                                        clear A390
                                        obtain ⟨y449, hy449⟩ : ∃ y_ : List (S68), y_ = (x10_2.set ((ji35) : Int).toNat (⟨(rd_T68 x10_2 (ji35)).f0, (⟨t443, t444, t445, t446, t447, t448⟩ : S50)⟩ : S68)) := ⟨_, rfl⟩
                                        replace H : (agg_Buckets.l0 kj26 a1 a2 a3 y449 l0 (l0.length : Int) (wrap64 (x46_2 + 1))) = some (r1, r2) := by first | (rw [hy449]; with_reducible exact H) | (have H2_ := (Option.bind_some _ _).symm.trans H; rw [hy449]; with_reducible exact H2_) | (have H2_ := (Option.bind_some _ _).symm.trans H; with_reducible exact H2_) | with_reducible exact H | (rw [hy449]; exact H) | exact H
                                        have Ny449 := Aside0.mk hy449
                                        clear hy449
                                        have H' := Aside0.mk H
                                        clear H
                                        try go_wp2
                                        have n0_ := Aside0.mk (Kd.R_drew HO_10.out)
                                        have n1_ := Aside0.mk (blk_drew BK434.out)
                                        have n2_ := Aside0.mk (below_drew1 HB.out)
                                        clear HO_10
                                        clear BK434
                                        clear HB
                                        have HO_10 := n0_
                                        have BK434 := n1_
                                        have HB := n2_
                                        clear n0_ n1_ n2_
                                        have p436 : 0 ≤ ((ji35) : Int) := of_decide_eq_true (by first | (with_reducible assumption) | assumption)
                                        have q436 : (ji35) < (x10_2.length : Int) := of_decide_eq_true (by first | (with_reducible assumption) | assumption)
                                        obtain ⟨ad436, e436, hx436_0, hx436_1, hx436_2, hx436_3, hx436_4, hx436_5, hx436_6⟩ := at_T68 (Kd.R_reads' HO_10.out).2.2 (ji35) p436 q436
                                        cases e436
                                        replace p436 := eq_true p436
                                        replace q436 := eq_true q436
                                        refine start_ (n := 13) (S := fun w' => w'.cell? ⟨gb434, 0, none⟩ = some (.int .i64 ((rd_T33 l0 x46_2).f0)) ∧ w'.cell? ⟨gb434, 1, none⟩ = some (.int .i64 ((rd_T33 l0 x46_2).f1)) ∧ w'.cell? (ad436.add (((ji35)).toNat * 7)) = some (.int .i64 ((rd_T68 x10_2 (ji35)).f0)) ∧ w'.cell? ⟨(ad436.add (((ji35)).toNat * 7)).block, (ad436.add (((ji35)).toNat * 7)).off + 1, none⟩ = some (.int .i64 ((rd_T68 x10_2 (ji35)).f1.f0)) ∧ w'.cell? ⟨(ad436.add (((ji35)).toNat * 7)).block, (ad436.add (((ji35)).toNat * 7)).off + 2, none⟩ = some (.int .i64 ((rd_T68 x10_2 (ji35)).f1.f1)) ∧ w'.cell? ⟨(ad436.add (((ji35)).toNat * 7)).block, (ad436.add (((ji35)).toNat * 7)).off + 3, none⟩ = some (.int .i64 ((rd_T68 x10_2 (ji35)).f1.f2)) ∧ w'.cell? ⟨(ad436.add (((ji35)).toNat * 7)).block, (ad436.add (((ji35)).toNat * 7)).off + 4, none⟩ = some (.int .i64 ((rd_T68 x10_2 (ji35)).f1.f3)) ∧ w'.cell? ⟨(ad436.add (((ji35)).toNat * 7)).block, (ad436.add (((ji35)).toNat * 7)).off + 5, none⟩ = some (.int .i64 ((rd_T68 x10_2 (ji35)).f1.f4)) ∧ w'.cell? ⟨(ad436.add (((ji35)).toNat * 7)).block, (ad436.add (((ji35)).toNat * 7)).off + 6, none⟩ = some (.int .i64 ((rd_T68 x10_2 (ji35)).f1.f5))) (ds := [12]) #[false, false, false, false, false, false, false, false, false, false, false, false, false] (by kernel_rfl) rfl rfl ⟨(blk_cell BK434.out 0).trans rfl, (blk_cell BK434.out 1).trans rfl, hx436_0, hx436_1, hx436_2, hx436_3, hx436_4, hx436_5, hx436_6⟩ (fun hHeld => ?_); refine with_tabW agg_Buckets.tab13 agg_Buckets.bits13 (fun HT_ HW_ => ?_)
                                        generalize wc.drew = w41 at HO_10 BK434 HB hx436_0 hx436_1 hx436_2 hx436_3 hx436_4 hx436_5 hx436_6 hHeld ⊢
                                        refine pure_ (i := 0) (N := some 84) (v := ?_) (a' := ?_) #[true, false, false, false, false, false, false, false, false, false, false, false, false] rfl rfl (any_of HT_.out (by kernel_rfl)) (fun _ _ _ h => h) (Or.inl ⟨by rfl, ?_⟩) ?_ ?_
                                        rotate_left
                                        · intro w'
                                          go_simp
                                          with_reducible rfl
                                        rotate_left
                                        · simp only [Act.put, List.setIfInBounds_toArray, List.set_cons_zero, List.set_cons_succ, i64_w, i32_w]
                                          rfl
                                        refine pure_ (i := 1) (N := some 85) (v := ?_) (a' := ?_) #[true, true, false, false, false, false, false, false, false, false, false, false, false] rfl rfl (any_of HT_.out (by kernel_rfl)) (fun _ _ _ h => h) (Or.inl ⟨by rfl, ?_⟩) ?_ ?_
                                        rotate_left
                                        · intro w'
                                          go_simp
                                          with_reducible rfl
                                        rotate_left
                                        · simp only [Act.put, List.setIfInBounds_toArray, List.set_cons_zero, List.set_cons_succ, i64_w, i32_w]
                                          rfl
                                        refine pure_ (i := 2) (N := some 86) (v := ?_) (a' := ?_) #[true, true, true, false, false, false, false, false, false, false, false, false, false] rfl rfl (any_of HT_.out (by kernel_rfl)) (fun _ _ _ h => h) (Or.inl ⟨by rfl, ?_⟩) ?_ ?_
                                        rotate_left
                                        · intro w'
                                          go_simp
                                          with_reducible rfl
                                        rotate_left
                                        · simp only [Act.put, List.setIfInBounds_toArray, List.set_cons_zero, List.set_cons_succ, i64_w, i32_w]
                                          rfl
                                        refine pure_ (i := 3) (N := some 87) (v := ?_) (a' := ?_) #[true, true, true, true, false, false, false, false, false, false, false, false, false] rfl rfl (any_of HT_.out (by kernel_rfl)) (fun _ _ _ h => h) (Or.inl ⟨by rfl, ?_⟩) ?_ ?_
                                        rotate_left
                                        · intro w'
                                          go_simp
                                          with_reducible rfl
                                        rotate_left
                                        · simp only [Act.put, List.setIfInBounds_toArray, List.set_cons_zero, List.set_cons_succ, i64_w, i32_w]
                                          rfl
                                        refine pure_ (i := 4) (N := some 88) (v := ?_) (a' := ?_) #[true, true, true, true, true, false, false, false, false, false, false, false, false] rfl rfl (any_of HT_.out (by kernel_rfl)) (fun _ _ _ h => h) (Or.inl ⟨by rfl, ?_⟩) ?_ ?_
                                        rotate_left
                                        · intro w'
                                          go_simp
                                          with_reducible rfl
                                        rotate_left
                                        · simp only [Act.put, List.setIfInBounds_toArray, List.set_cons_zero, List.set_cons_succ, i64_w, i32_w]
                                          rfl
                                        refine pure_ (i := 5) (N := some 89) (v := ?_) (a' := ?_) #[true, true, true, true, true, true, false, false, false, false, false, false, false] rfl rfl (any_of HT_.out (by kernel_rfl)) (fun _ _ _ h => h) (Or.inl ⟨by rfl, ?_⟩) ?_ ?_
                                        rotate_left
                                        · intro w'
                                          go_simp
                                          with_reducible rfl
                                        rotate_left
                                        · simp only [Act.put, List.setIfInBounds_toArray, List.set_cons_zero, List.set_cons_succ, i64_w, i32_w]
                                          rfl
                                        refine take_ (i := 6) (N := some 90) (v := ?_) (a' := ?_) #[true, true, true, true, true, true, true, false, false, false, false, false, false] rfl rfl (take_ofW HT_.out HW_.out (by kernel_rfl)) (fun _ _ _ h => h) (Or.inl ⟨by rfl, ?_⟩) hHeld ?_ ?_
                                        rotate_left
                                        · rintro w' ⟨s0, s1, s2, s3, s4, s5, s6, s7, s8⟩
                                          go_simp
                                          with_reducible rfl
                                        rotate_left
                                        · simp only [Act.put, List.setIfInBounds_toArray, List.set_cons_zero, List.set_cons_succ, i64_w, i32_w]
                                          rfl
                                        refine take_ (i := 7) (N := some 91) (v := ?_) (a' := ?_) #[true, true, true, true, true, true, true, true, false, false, false, false, false] rfl rfl (take_ofW HT_.out HW_.out (by kernel_rfl)) (fun _ _ _ h => h) (Or.inl ⟨by rfl, ?_⟩) hHeld ?_ ?_
                                        rotate_left
                                        · rintro w' ⟨s0, s1, s2, s3, s4, s5, s6, s7, s8⟩
                                          go_simp
                                          with_reducible rfl
                                        rotate_left
                                        · simp only [Act.put, List.setIfInBounds_toArray, List.set_cons_zero, List.set_cons_succ, i64_w, i32_w]
                                          rfl
                                        refine one_ (i := 8) (N := some 92) #[true, true, true, true, true, true, true, true, true, false, false, false, false] rfl rfl (one_of HT_.out (by kernel_rfl)) (by decide) (fun K hK => ?_)
                                        refine goes_ Try.func43 (by kernel_rfl) rfl #[.agg #[.int .i64 ((rd_T33 l0 x46_2).f0), .int .i64 ((rd_T33 l0 x46_2).f1)]] (by rfl) rfl rfl (by (try simp only [List.map_toArray, List.map_cons, List.map_nil]); first | done | rfl | (simp only [List.length_drop, List.length_take]; rfl)) ?_
                                        with_reducible refine (agg_one.calls ((rd_T33 l0 x46_2).f0) ((rd_T33 l0 x46_2).f1) t437 t438 t439 t440 t441 t442 _ A38.out).mono ?_
                                        rintro e w42 ⟨rfl, hb⟩
                                        have HS2_ := (hb.cell (World.block_lt_of_cell? _ _ (hHeld.2.2.1))).trans (hHeld.2.2.1)
                                        have HS3_ := (hb.cell (World.block_lt_of_cell? _ _ (hHeld.2.2.2.1))).trans (hHeld.2.2.2.1)
                                        have HS4_ := (hb.cell (World.block_lt_of_cell? _ _ (hHeld.2.2.2.2.1))).trans (hHeld.2.2.2.2.1)
                                        have HS5_ := (hb.cell (World.block_lt_of_cell? _ _ (hHeld.2.2.2.2.2.1))).trans (hHeld.2.2.2.2.2.1)
                                        have HS6_ := (hb.cell (World.block_lt_of_cell? _ _ (hHeld.2.2.2.2.2.2.1))).trans (hHeld.2.2.2.2.2.2.1)
                                        have HS7_ := (hb.cell (World.block_lt_of_cell? _ _ (hHeld.2.2.2.2.2.2.2.1))).trans (hHeld.2.2.2.2.2.2.2.1)
                                        have HS8_ := (hb.cell (World.block_lt_of_cell? _ _ (hHeld.2.2.2.2.2.2.2.2))).trans (hHeld.2.2.2.2.2.2.2.2)
                                        refine ⟨_, rfl, ?_⟩
                                        have n0_ := Aside0.mk (Kd.R_below (by (with_reducible repeat (first | apply Kd.R_alloc | apply Kd.R_drewN | apply Kd.R_drew)); exact HO_10.out) hb)
                                        have n1_ := Aside0.mk (blk_below (g := gb434) (o := .cells #[.int .i64 ((rd_T33 l0 x46_2).f0), .int .i64 ((rd_T33 l0 x46_2).f1)] 33 (0, 0)) (by (with_reducible repeat (first | refine blk_drewN ?_ _ | refine blk_drew ?_ | refine blk_alloc ?_ _)); exact BK434.out) hb)
                                        have n2_ := Aside0.mk (below_step (by repeat (first | (with_reducible first | exact HB.out | apply below_alloc | apply pw_below_drewN | apply below_drew1 | refine below_set ?_ GE434.out) | exact HB.out)) hb)
                                        clear HO_10
                                        clear BK434
                                        clear HB
                                        have HO_10 := n0_
                                        have BK434 := n1_
                                        have HB := n2_
                                        clear n0_ n1_ n2_
                                        (try clear hb)
                                        (try clear hb2)
                                        (try clear hk)
                                        (try clear hi)
                                        refine hK.out _ _ ⟨(blk_cell BK434.out 0).trans rfl, (blk_cell BK434.out 1).trans rfl, HS2_, HS3_, HS4_, HS5_, HS6_, HS7_, HS8_⟩ (fun hHeld => ?_)
                                        clear hK K
                                        refine norm_ (a' := ?_) ?_ ?_
                                        rotate_left
                                        · show Act.put _ (some 92) _ = _
                                          simp only [Act.put, List.setIfInBounds_toArray, List.set_cons_zero, List.set_cons_succ, i64_w, i32_w]
                                          rfl
                                        refine one_ (i := 9) (N := some 93) #[true, true, true, true, true, true, true, true, true, true, false, false, false] rfl rfl (one_of HT_.out (by kernel_rfl)) (by decide) (fun K hK => ?_)
                                        refine goes_ Try.func32 (by kernel_rfl) rfl #[.agg #[.int .i64 ((rd_T68 x10_2 (ji35)).f1.f0), .int .i64 ((rd_T68 x10_2 (ji35)).f1.f1), .int .i64 ((rd_T68 x10_2 (ji35)).f1.f2), .int .i64 ((rd_T68 x10_2 (ji35)).f1.f3), .int .i64 ((rd_T68 x10_2 (ji35)).f1.f4), .int .i64 ((rd_T68 x10_2 (ji35)).f1.f5)], .agg #[.int .i64 t437, .int .i64 t438, .int .i64 t439, .int .i64 t440, .int .i64 t441, .int .i64 t442]] (by rfl) rfl rfl (by (try simp only [List.map_toArray, List.map_cons, List.map_nil]); first | done | (simp only [hji35]; rfl) | rfl | (simp only [List.length_drop, List.length_take]; rfl)) ?_
                                        with_reducible refine (agg_Join.calls ((rd_T68 x10_2 (ji35)).f1.f0) ((rd_T68 x10_2 (ji35)).f1.f1) ((rd_T68 x10_2 (ji35)).f1.f2) ((rd_T68 x10_2 (ji35)).f1.f3) ((rd_T68 x10_2 (ji35)).f1.f4) ((rd_T68 x10_2 (ji35)).f1.f5) t437 t438 t439 t440 t441 t442 t443 t444 t445 t446 t447 t448 _ A39.out).mono ?_
                                        rintro e w43 ⟨rfl, hb⟩
                                        have HS2_ := (hb.cell (World.block_lt_of_cell? _ _ (hHeld.2.2.1))).trans (hHeld.2.2.1)
                                        have HS3_ := (hb.cell (World.block_lt_of_cell? _ _ (hHeld.2.2.2.1))).trans (hHeld.2.2.2.1)
                                        have HS4_ := (hb.cell (World.block_lt_of_cell? _ _ (hHeld.2.2.2.2.1))).trans (hHeld.2.2.2.2.1)
                                        have HS5_ := (hb.cell (World.block_lt_of_cell? _ _ (hHeld.2.2.2.2.2.1))).trans (hHeld.2.2.2.2.2.1)
                                        have HS6_ := (hb.cell (World.block_lt_of_cell? _ _ (hHeld.2.2.2.2.2.2.1))).trans (hHeld.2.2.2.2.2.2.1)
                                        have HS7_ := (hb.cell (World.block_lt_of_cell? _ _ (hHeld.2.2.2.2.2.2.2.1))).trans (hHeld.2.2.2.2.2.2.2.1)
                                        have HS8_ := (hb.cell (World.block_lt_of_cell? _ _ (hHeld.2.2.2.2.2.2.2.2))).trans (hHeld.2.2.2.2.2.2.2.2)
                                        refine ⟨_, rfl, ?_⟩
                                        have n0_ := Aside0.mk (Kd.R_below (by (with_reducible repeat (first | apply Kd.R_alloc | apply Kd.R_drewN | apply Kd.R_drew)); exact HO_10.out) hb)
                                        have n1_ := Aside0.mk (blk_below (g := gb434) (o := .cells #[.int .i64 ((rd_T33 l0 x46_2).f0), .int .i64 ((rd_T33 l0 x46_2).f1)] 33 (0, 0)) (by (with_reducible repeat (first | refine blk_drewN ?_ _ | refine blk_drew ?_ | refine blk_alloc ?_ _)); exact BK434.out) hb)
                                        have n2_ := Aside0.mk (below_step (by repeat (first | (with_reducible first | exact HB.out | apply below_alloc | apply pw_below_drewN | apply below_drew1 | refine below_set ?_ GE434.out) | exact HB.out)) hb)
                                        clear HO_10
                                        clear BK434
                                        clear HB
                                        have HO_10 := n0_
                                        have BK434 := n1_
                                        have HB := n2_
                                        clear n0_ n1_ n2_
                                        (try clear hb)
                                        (try clear hb2)
                                        (try clear hk)
                                        (try clear hi)
                                        have p40 : 0 ≤ ((ji35) : Int) := of_decide_eq_true (by first | (with_reducible assumption) | assumption)
                                        have q40 : ((ji35) : Int) < ((x10_2.length : Int) : Int) := of_decide_eq_true (by first | (with_reducible assumption) | assumption)
                                        obtain ⟨go40, co40, eo40, gb40, gl40, cl40, HG40⟩ := Kd.R_form HO_10.out (by omega)
                                        (first | cases eo40 | (injection eo40 with ea_ en_ ec_; (first | subst ea_ | (injection ea_ with ea_; subst ea_)); subst ec_; clear en_))
                                        have GB40 := Aside0.mk gb40
                                        have GG40 := Aside0.mk HG40
                                        clear gb40 gl40 HG40
                                        (first | simp only [add_plain] at hx436_0 | skip)
                                        (first | simp only [add_plain] at hx436_1 | skip)
                                        (first | simp only [add_plain] at hx436_2 | skip)
                                        (first | simp only [add_plain] at hx436_3 | skip)
                                        (first | simp only [add_plain] at hx436_4 | skip)
                                        (first | simp only [add_plain] at hx436_5 | skip)
                                        (first | simp only [add_plain] at hx436_6 | skip)
                                        obtain ⟨ce40, hcl40, hM40, hcc40, hfr40⟩ := Kd.R_elem HO_10.out z68 ((ji35) : Int) p40 q40
                                        obtain rfl := k68_openM hM40
                                        have hx40_0 : World.cell? _ ⟨go40, ((ji35) : Int).toNat * 7, none⟩ = some (.int .i64 ((rd_T68 x10_2 (ji35)).f0)) := hcc40 0 _ rfl
                                        have hx40_1 : World.cell? _ ⟨go40, ((ji35) : Int).toNat * 7 + 1, none⟩ = some (.int .i64 ((rd_T68 x10_2 (ji35)).f1.f0)) := hcc40 1 _ rfl
                                        have hx40_2 : World.cell? _ ⟨go40, ((ji35) : Int).toNat * 7 + 2, none⟩ = some (.int .i64 ((rd_T68 x10_2 (ji35)).f1.f1)) := hcc40 2 _ rfl
                                        have hx40_3 : World.cell? _ ⟨go40, ((ji35) : Int).toNat * 7 + 3, none⟩ = some (.int .i64 ((rd_T68 x10_2 (ji35)).f1.f2)) := hcc40 3 _ rfl
                                        have hx40_4 : World.cell? _ ⟨go40, ((ji35) : Int).toNat * 7 + 4, none⟩ = some (.int .i64 ((rd_T68 x10_2 (ji35)).f1.f3)) := hcc40 4 _ rfl
                                        have hx40_5 : World.cell? _ ⟨go40, ((ji35) : Int).toNat * 7 + 5, none⟩ = some (.int .i64 ((rd_T68 x10_2 (ji35)).f1.f4)) := hcc40 5 _ rfl
                                        have hx40_6 : World.cell? _ ⟨go40, ((ji35) : Int).toNat * 7 + 6, none⟩ = some (.int .i64 ((rd_T68 x10_2 (ji35)).f1.f5)) := hcc40 6 _ rfl
                                        have hf40_0 : World.frozen? _ ⟨go40, ((ji35) : Int).toNat * 7, none⟩ = false := hfr40 0
                                        have hf40_1 : World.frozen? _ ⟨go40, ((ji35) : Int).toNat * 7 + 1, none⟩ = false := hfr40 1
                                        have hf40_2 : World.frozen? _ ⟨go40, ((ji35) : Int).toNat * 7 + 2, none⟩ = false := hfr40 2
                                        have hf40_3 : World.frozen? _ ⟨go40, ((ji35) : Int).toNat * 7 + 3, none⟩ = false := hfr40 3
                                        have hf40_4 : World.frozen? _ ⟨go40, ((ji35) : Int).toNat * 7 + 4, none⟩ = false := hfr40 4
                                        have hf40_5 : World.frozen? _ ⟨go40, ((ji35) : Int).toNat * 7 + 5, none⟩ = false := hfr40 5
                                        have hf40_6 : World.frozen? _ ⟨go40, ((ji35) : Int).toNat * 7 + 6, none⟩ = false := hfr40 6
                                        clear hcl40 hcc40 hfr40 hM40
                                        replace p40 := eq_true p40
                                        replace q40 := eq_true q40
                                        obtain ⟨ce44, hcl44, hM44, hcc44, hfr44⟩ := Kd.R_elem HO_10.out z68 ((ji35) : Int) (of_decide_eq_true (by first | (with_reducible assumption) | assumption)) (by have h_ : ((ji35) : Int) < ((x10_2.length : Int) : Int) := of_decide_eq_true (by first | (with_reducible assumption) | assumption); first | exact h_ | (have e_ := (Kd.R_reads' HO_10.out).1; omega) | simpa using h_)
                                        obtain rfl := k68_openM hM44
                                        have HP44 := (Kd.R_seg HO_10.out ((ji35) : Int) (of_decide_eq_true (by first | (with_reducible assumption) | assumption)) (by have h_ : ((ji35) : Int) < ((x10_2.length : Int) : Int) := of_decide_eq_true (by first | (with_reducible assumption) | assumption); first | exact h_ | (have e_ := (Kd.R_reads' HO_10.out).1; omega) | simpa using h_) (seg := [.int .i64 t443, .int .i64 t444, .int .i64 t445, .int .i64 t446, .int .i64 t447, .int .i64 t448]) (j := 1) hcl44 hcc44 (show 7 ≤ 7 from by decide) (x' := (⟨(rd_T68 x10_2 (ji35)).f0, (⟨t443, t444, t445, t446, t447, t448⟩ : S50)⟩ : S68)) (k68_mkM _ _ _ (⟨(rd_T68 x10_2 (ji35)).f0, (⟨t443, t444, t445, t446, t447, t448⟩ : S50)⟩ : S68) ) (fun _ hk => hk)).1
                                        rw [← Ny449.out] at HP44
                                        have HQ44 := Aside0.mk HP44
                                        clear hcl44 hcc44 hfr44 hM44 HP44
                                        refine hK.out _ _ ⟨(blk_cell BK434.out 0).trans rfl, (blk_cell BK434.out 1).trans rfl, HS2_, HS3_, HS4_, HS5_, HS6_, HS7_, HS8_⟩ (fun hHeld => ?_)
                                        clear hK K
                                        refine norm_ (a' := ?_) ?_ ?_
                                        rotate_left
                                        · show Act.put _ (some 93) _ = _
                                          simp only [Act.put, List.setIfInBounds_toArray, List.set_cons_zero, List.set_cons_succ, i64_w, i32_w]
                                          rfl
                                        refine pure_ (i := 10) (N := some 94) (v := ?_) (a' := ?_) #[true, true, true, true, true, true, true, true, true, true, true, false, false] rfl rfl (any_of HT_.out (by kernel_rfl)) (fun _ _ _ h => h) (Or.inl ⟨by rfl, ?_⟩) ?_ ?_
                                        rotate_left
                                        · intro w'
                                          go_simp
                                          with_reducible rfl
                                        rotate_left
                                        · simp only [Act.put, List.setIfInBounds_toArray, List.set_cons_zero, List.set_cons_succ, i64_w, i32_w]
                                          rfl
                                        refine pure_ (i := 11) (N := some 95) (v := ?_) (a' := ?_) #[true, true, true, true, true, true, true, true, true, true, true, true, false] rfl rfl (any_of HT_.out (by kernel_rfl)) (fun _ _ _ h => h) (Or.inl ⟨by rfl, ?_⟩) ?_ ?_
                                        rotate_left
                                        · intro w'
                                          go_simp
                                          with_reducible rfl
                                        rotate_left
                                        · simp only [Act.put, List.setIfInBounds_toArray, List.set_cons_zero, List.set_cons_succ, i64_w, i32_w]
                                          rfl
                                        refine last_ (i := 12) (N := none) #[true, true, true, true, true, true, true, true, true, true, true, true, true] rfl rfl (one_of HT_.out (by kernel_rfl)) (by decide) (fun K hK => ?_)
                                        refine skip_ (w1 := ?_) (by rfl) rfl ?_ ?_
                                        rotate_left
                                        · go_simp
                                          rfl
                                        refine hK.out _ _ ?_
                                        clear hK K
                                        refine done_ (done_of HT_.out (by kernel_rfl)) ?_
                                        try go_wp2
                                        go_roundg kj26
                                        case measure => have := HJ4.out; have := HK2.out; have := HJ18.out; have := HJ26.out; omega
                                        case rel => exact ⟨(y449), (wrap64 (x46_2 + 1)), (by first | rfl | (simp; done) | (simp [*]; done) | (simp <;> grind)), (by first | exact H' | (simp only [hji35]; exact H')), ⟨by have := HJ4.out; have := HK2.out; have := HJ18.out; have := HJ26.out; omega⟩, ⟨by (with_reducible repeat (first | apply Kd.R_alloc | apply Kd.R_drewN | apply Kd.R_drew)); exact HQ44.out⟩, ⟨by repeat (first | (with_reducible first | exact HB.out | apply below_alloc | apply pw_below_drewN | apply below_drew1 | refine below_set ?_ GB40.out | refine below_set ?_ GB40.out | refine below_set ?_ GB40.out | refine below_set ?_ GB40.out | refine below_set ?_ GB40.out | refine below_set ?_ GB40.out | refine below_set ?_ GE434.out) | exact HB.out)⟩⟩
                                      · rw [if_neg c37] at H
                                        exact absurd H (by simp)
                                    · rw [if_neg c36] at H
                                      exact absurd H (by simp)
                                  · replace c34 := Bool.eq_false_iff.mpr c34
                                    subst c34
                                    have H1 : ((agg_one.f ((rd_T33 l0 x46_2).f0) ((rd_T33 l0 x46_2).f1)).bind fun bt450 => (if x10_2.length < 2513169434916 then (agg_Buckets.l0 kj26 a1 a2 a3 (x10_2 ++ [(⟨(wrap64 (a1 + (wrap64 ((wrap64 (Int.tdiv (wrap64 (((rd_T33 l0 x46_2).f0) - a1)) a3)) * a3)))), (⟨bt450.1, bt450.2.1, bt450.2.2.1, bt450.2.2.2.1, bt450.2.2.2.2.1, bt450.2.2.2.2.2⟩ : S50)⟩ : S68)]) l0 (l0.length : Int) (wrap64 (x46_2 + 1))) else (none))) = some (r1, r2) := by rw [if_neg (show ¬ (false = true) by decide)] at H; exact H
                                    clear H
                                    have H := H1
                                    clear H1
                                    replace H := Option.bind_eq_some_iff.mp H
                                    obtain ⟨⟨t450, t451, t452, t453, t454, t455⟩, A450, H⟩ := H
                                    replace H : (if x10_2.length < 2513169434916 then (agg_Buckets.l0 kj26 a1 a2 a3 (x10_2 ++ [(⟨(wrap64 (a1 + (wrap64 ((wrap64 (Int.tdiv (wrap64 (((rd_T33 l0 x46_2).f0) - a1)) a3)) * a3)))), (⟨t450, t451, t452, t453, t454, t455⟩ : S50)⟩ : S68)]) l0 (l0.length : Int) (wrap64 (x46_2 + 1))) else (none)) = some (r1, r2) := H
                                    have A45 := Aside0.mk A450
                                    clear A450
                                    by_cases c46 : x10_2.length < 2513169434916
                                    · rw [if_pos c46] at H
                                      have LMc46 := Aside0.mk c46
                                      clear c46
                                      obtain ⟨y456, hy456⟩ : ∃ y_ : List (S68), y_ = (x10_2 ++ [(⟨(wrap64 (a1 + (wrap64 ((wrap64 (Int.tdiv (wrap64 (((rd_T33 l0 x46_2).f0) - a1)) a3)) * a3)))), (⟨t450, t451, t452, t453, t454, t455⟩ : S50)⟩ : S68)]) := ⟨_, rfl⟩
                                      replace H : (agg_Buckets.l0 kj26 a1 a2 a3 y456 l0 (l0.length : Int) (wrap64 (x46_2 + 1))) = some (r1, r2) := by first | (rw [hy456]; with_reducible exact H) | (have H2_ := (Option.bind_some _ _).symm.trans H; rw [hy456]; with_reducible exact H2_) | (have H2_ := (Option.bind_some _ _).symm.trans H; with_reducible exact H2_) | with_reducible exact H | (rw [hy456]; exact H) | exact H
                                      have Ny456 := Aside0.mk hy456
                                      clear hy456
                                      have H' := Aside0.mk H
                                      clear H
                                      have hcz47_0 : wc.cell? ⟨gb434, 0, none⟩ = some (.int .i64 ((rd_T33 l0 x46_2).f0)) := (blk_cell BK434.out 0).trans rfl
                                      have hcz47_1 : wc.cell? ⟨gb434, 1, none⟩ = some (.int .i64 ((rd_T33 l0 x46_2).f1)) := (blk_cell BK434.out 1).trans rfl
                                      have hfz47_0 := blk_frozen BK434.out 0
                                      have hfz47_1 := blk_frozen BK434.out 1
                                      go_wp2_with (first | ((with_reducible refine gate_callee (f := 43) rfl ?_); refine goesL_ (some 99) rfl rfl Try.func43 (by kernel_rfl) rfl #[.agg #[.int .i64 ((rd_T33 l0 x46_2).f0), .int .i64 ((rd_T33 l0 x46_2).f1)]] rfl (by (try simp only [List.map_toArray, List.map_cons, List.map_nil]); first | done | rfl | (simp only [List.length_drop, List.length_take]; rfl)) ?_; (with_reducible refine (agg_one.calls ((rd_T33 l0 x46_2).f0) ((rd_T33 l0 x46_2).f1) t450 t451 t452 t453 t454 t455 _ A45.out).mono ?_); rintro e w48 ⟨rfl, hb⟩; refine ⟨_, rfl, ?_⟩; have n0_ := Aside0.mk (Kd.R_below (by (with_reducible repeat (first | apply Kd.R_alloc | apply Kd.R_drewN | apply Kd.R_drew)); exact HO_10.out) hb); have n1_ := Aside0.mk (blk_below (g := gb434) (o := .cells #[.int .i64 ((rd_T33 l0 x46_2).f0), .int .i64 ((rd_T33 l0 x46_2).f1)] 33 (0, 0)) (by (with_reducible repeat (first | refine blk_drewN ?_ _ | refine blk_drew ?_ | refine blk_alloc ?_ _)); exact BK434.out) hb); have n2_ := Aside0.mk (below_step (by repeat (first | (with_reducible first | exact HB.out | apply below_alloc | apply pw_below_drewN | apply below_drew1 | refine below_set ?_ GE434.out) | exact HB.out)) hb); clear HO_10; clear BK434; clear HB; have HO_10 := n0_; have BK434 := n1_; have HB := n2_; clear n0_ n1_ n2_; (try clear hb); (try clear hb2); (try clear hk); (try clear hi)) | ((with_reducible refine gate_builtin (b := .append) (xs := #[.tmp 96, .tmp 101]) rfl ?_); at_builtin; refine Kd.R_append k68 (w0 := w) w.heap.size rfl (.tmp 96) (.tmp 101) 62 68 (.agg #[(.int .i64 0), (.int .i64 0), (.int .i64 0), (.int .i64 0), (.int .i64 0), (.int .i64 0), (.int .i64 0)]) 56 rfl Try.underlying62 info68 rfl (by decide) (by omega) (.slice Ao29 x10_2.length co29) x10_2 (⟨(wrap64 (a1 + (wrap64 ((wrap64 (Int.tdiv (wrap64 (((rd_T33 l0 x46_2).f0) - a1)) a3)) * a3)))), (⟨t450, t451, t452, t453, t454, t455⟩ : S50)⟩ : S68) [.int .i64 (wrap64 (a1 + (wrap64 ((wrap64 (Int.tdiv (wrap64 (((rd_T33 l0 x46_2).f0) - a1)) a3)) * a3)))), .int .i64 t450, .int .i64 t451, .int .i64 t452, .int .i64 t453, .int .i64 t454, .int .i64 t455] (fun _ => True) (fun _ => False) rfl rfl ?aP (fun _ hk => hk.elim) ?aF ?aO ?aB ?aS ?aL ?_; (case aP => exact k68_mkM _ _ _ (⟨(wrap64 (a1 + (wrap64 ((wrap64 (Int.tdiv (wrap64 (((rd_T33 l0 x46_2).f0) - a1)) a3)) * a3)))), (⟨t450, t451, t452, t453, t454, t455⟩ : S50)⟩ : S68)); (case aB => exact (by repeat (first | (with_reducible first | exact HB.out | apply below_alloc | apply pw_below_drewN | apply below_drew1 | refine below_set ?_ GE434.out) | exact HB.out))); (case aF => exact (fun _ _ => trivial)); (case aO => exact (by (with_reducible repeat (first | apply Kd.R_alloc | apply Kd.R_drewN | apply Kd.R_drew)); exact HO_10.out)); (case aS => exact (below_size (by repeat (first | (with_reducible first | exact HB.out | apply below_alloc | apply pw_below_drewN | apply below_drew1 | refine below_set ?_ GE434.out) | exact HB.out)))); (case aL => have := LMc46.out; omega); intro v457 w49 ho hb hg hat; rw [← Ny456.out] at ho; have n0_ := Aside0.mk (blk_grown (g := gb434) (o := .cells #[.int .i64 ((rd_T33 l0 x46_2).f0), .int .i64 ((rd_T33 l0 x46_2).f1)] 33 (0, 0)) (by (with_reducible repeat (first | refine blk_drewN ?_ _ | refine blk_drew ?_ | refine blk_alloc ?_ _)); exact BK434.out) hg (Kd.R_ne HO_10.out BK434.out (by decide))); have n1_ := Aside0.mk (hb); have n2_ := Aside0.mk (ho); clear BK434; clear HB; clear HO_10; have BK434 := n0_; have HB := n1_; have HO458 := n2_; clear n0_ n1_ n2_; clear ho hb hg hat))
                                      go_roundg kj26
                                      case measure => have := HJ4.out; have := HK2.out; have := HJ18.out; have := HJ26.out; omega
                                      case rel => exact ⟨(y456), (wrap64 (x46_2 + 1)), (by first | rfl | (simp; done) | (simp [*]; done) | (simp <;> grind)), H', ⟨by have := HJ4.out; have := HK2.out; have := HJ18.out; have := HJ26.out; omega⟩, ⟨by (with_reducible repeat (first | apply Kd.R_alloc | apply Kd.R_drewN | apply Kd.R_drew)); exact HO458.out⟩, ⟨by repeat (first | (with_reducible first | exact HB.out | apply below_alloc | apply pw_below_drewN | apply below_drew1 | refine below_set ?_ GE434.out) | exact HB.out)⟩⟩
                                    · rw [if_neg c46] at H
                                      exact absurd H (by simp)
                    · rw [if_neg c18] at H
                      exact absurd H (by simp)
                  · rw [if_neg c17] at H
                    exact absurd H (by simp)
                · rw [if_neg c16] at H
                  have c16b0 : decide (x46_2 < (l0.length : Int)) = false := decide_eq_false c16
                  clear c16
                  simp only [Option.some.injEq, Prod.mk.injEq] at H
                  obtain ⟨rfl, rfl⟩ := H
                  go_wp2
                  go_ret2
                  exact ⟨_, by first | rfl | (simp [errW_none, errW_some] <;> rfl) | (simp [*, errW_none, errW_some] <;> rfl), by (with_reducible repeat (first | apply Kd.R_alloc | apply Kd.R_drewN | apply Kd.R_drew)); exact HO_10.out, by repeat (first | (with_reducible first | exact HB.out | apply below_alloc | apply pw_below_drewN | apply below_drew1) | exact HB.out)⟩

end Go.Proofs.Ytjkpdjadbeidnaa.X
