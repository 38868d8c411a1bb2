-- By xprint.py, out of the translation's own print. Lean checks it.
import Derived.Test.YtjkpdjadbeidnaaX0
import Derived.Test.YtjkpdjadbeidnaaX6
import Derived.Test.YtjkpdjadbeidnaaX15
import Derived.Test.YtjkpdjadbeidnaaX16
import Derived.Test.YtjkpdjadbeidnaaX21
import Derived.Test.YtjkpdjadbeidnaaX31
import Derived.Test.YtjkpdjadbeidnaaX33
namespace Go.Proofs.Ytjkpdjadbeidnaa.X
open Go.RowKit Go.Proofs.YtjkpdjadbeidnaaW.PrintWords Go.Proofs.YtjkpdjadbeidnaaW.PrintLast Go.Proofs.YtjkpdjadbeidnaaW.PrintMore
attribute [local go_sem] max2_int min2_int max_two min_two max_three min_three max_four min_four   -- for this text's walks alone
set_option linter.unusedVariables false
set_option linter.unusedSimpArgs false

attribute [local go_sem high] idxA80
/-! ### marigraphlaw12_AggOne: function 17 -/
def marigraphlaw12_AggOne.j0 : Nat → Bool → List (S33) → Bool → Option (Bool)
  | 0, _, _, _ => none
  | k + 1, x3, x4, x36 => if x36 = true then (some x3) else (if 0 < (x4.length : Int) then (if 0 ≤ (wrap64 ((x4.length : Int) - 1)) then (if (wrap64 ((x4.length : Int) - 1)) < (x4.length : Int) then ((agg_Buckets.f k x4 ((rd_T33 x4 0).f0) (wrap64 (((rd_T33 x4 (wrap64 ((x4.length : Int) - 1))).f0) + 1)) (wrap64 ((wrap64 (((rd_T33 x4 (wrap64 ((x4.length : Int) - 1))).f0) + 1)) - ((rd_T33 x4 0).f0)))).bind fun bt539 => (if x3 = true then (if bt539.2 = 0 then ((agg_Of.f k x4).bind fun bt543 => ((marigraphref12_Same.f k bt539.1 (([(⟨(rd_T33 x4 0).f0, (⟨bt543.1, bt543.2.1, bt543.2.2.1, bt543.2.2.2.1, bt543.2.2.2.2.1, bt543.2.2.2.2.2⟩ : S50)⟩ : S68)] : List (S68)))).bind fun t552 => (some t552))) else (some false)) else (some false))) else (none)) else (none)) else (none))
def marigraphlaw12_AggOne.f (k : Nat) (l0 : List (S33)) : Option (Bool) := (marigraphlaw12_shown.f k).bind fun t530 => ((marigraphlaw12_few.f l0).bind fun t531 => (if (t531.length : Int) = 0 then (marigraphlaw12_AggOne.j0 k t530 t531 true) else ((marigraphref04_Right.f k t531).bind fun t534 => (if t534 = true then (if 0 < (t531.length : Int) then (if ((rd_T33 t531 0).f0) < (-1152921504606846976) then (marigraphlaw12_AggOne.j0 k t530 t531 true) else (if 0 ≤ (wrap64 ((t531.length : Int) - 1)) then (if (wrap64 ((t531.length : Int) - 1)) < (t531.length : Int) then (marigraphlaw12_AggOne.j0 k t530 t531 (decide (((rd_T33 t531 (wrap64 ((t531.length : Int) - 1))).f0) ≥ 1152921504606846976))) else (none)) else (none))) else (none)) else (marigraphlaw12_AggOne.j0 k t530 t531 true)))))
theorem marigraphlaw12_AggOne.mono_l : ∀ k, (∀ y0 y1 y2, LeO (marigraphlaw12_AggOne.j0 k y0 y1 y2) (marigraphlaw12_AggOne.j0 (k + 1) y0 y1 y2))
  | 0 => fun _ _ _ r h => by simp [marigraphlaw12_AggOne.j0] at h
  | k + 1 => by
    have ih0 := marigraphlaw12_AggOne.mono_l k
    · intro y0 y1 y2
      unfold marigraphlaw12_AggOne.j0
      repeat' first
      | (with_reducible exact ih0 _ _ _)
      | (with_reducible exact agg_Buckets.mono _ _ _ _ _)
      | (with_reducible exact agg_Of.mono _ _)
      | (with_reducible exact marigraphlaw12_shown.mono _)
      | (with_reducible exact marigraphref04_Right.mono _ _)
      | (with_reducible exact marigraphref12_Same.mono _ _ _)
      | (with_reducible exact LeO.refl _)
      | (with_reducible exact LeO.none _)
      | (with_reducible refine LeO.ite ?_ ?_)
      | (with_reducible refine LeO.bind ?_ (fun _ => ?_))
      | exact ih0 _ _ _
      | exact agg_Buckets.mono _ _ _ _ _
      | exact agg_Of.mono _ _
      | exact marigraphlaw12_shown.mono _
      | exact marigraphref04_Right.mono _ _
      | exact marigraphref12_Same.mono _ _ _
      | exact LeO.none _
      | refine LeO.ite ?_ ?_
      | refine LeO.bind ?_ (fun _ => ?_)
theorem marigraphlaw12_AggOne.mono : ∀ a0 k, LeO (marigraphlaw12_AggOne.f k a0) (marigraphlaw12_AggOne.f (k + 1) a0) := by
  intro a0 k
  have ih0 := marigraphlaw12_AggOne.mono_l k
  unfold marigraphlaw12_AggOne.f
  repeat' first
      | (with_reducible exact ih0 _ _ _)
      | (with_reducible exact agg_Buckets.mono _ _ _ _ _)
      | (with_reducible exact agg_Of.mono _ _)
      | (with_reducible exact marigraphlaw12_shown.mono _)
      | (with_reducible exact marigraphref04_Right.mono _ _)
      | (with_reducible exact marigraphref12_Same.mono _ _ _)
      | (with_reducible exact LeO.refl _)
      | (with_reducible exact LeO.none _)
      | (with_reducible refine LeO.ite ?_ ?_)
      | (with_reducible refine LeO.bind ?_ (fun _ => ?_))
      | exact ih0 _ _ _
      | exact agg_Buckets.mono _ _ _ _ _
      | exact agg_Of.mono _ _
      | exact marigraphlaw12_shown.mono _
      | exact marigraphref04_Right.mono _ _
      | exact marigraphref12_Same.mono _ _ _
      | exact LeO.none _
      | refine LeO.ite ?_ ?_
      | refine LeO.bind ?_ (fun _ => ?_)
set_option maxHeartbeats 8000000 in
set_option maxRecDepth 100000 in
theorem marigraphlaw12_AggOne.calls (k : Nat) (A0 : Option Addr) (c0 : Nat) (l0 : List (S33)) (r : Bool) (w : World) (hr0 : Kd.C k33 w A0 l0.length l0) (hc0 : l0.length ≤ c0) (h : marigraphlaw12_AggOne.f k l0 = some r) :
    Calls Try.prog 17 #[.slice A0 l0.length c0] w fun e w' => e = .returned (.bool r) ∧ Below w.heap.size w w' := by
  have hu68 := Try.underlying68
  have HR0 := Aside0.mk hr0
  have HC0 := Aside0.mk hc0
  clear hr0 hc0
  have HB := Aside0.mk (Below.refl w.heap.size w)
  have H : ((marigraphlaw12_shown.f k).bind fun t530 => ((marigraphlaw12_few.f l0).bind fun t531 => (if (t531.length : Int) = 0 then (marigraphlaw12_AggOne.j0 k t530 t531 true) else ((marigraphref04_Right.f k t531).bind fun t534 => (if t534 = true then (if 0 < (t531.length : Int) then (if ((rd_T33 t531 0).f0) < (-1152921504606846976) then (marigraphlaw12_AggOne.j0 k t530 t531 true) else (if 0 ≤ (wrap64 ((t531.length : Int) - 1)) then (if (wrap64 ((t531.length : Int) - 1)) < (t531.length : Int) then (marigraphlaw12_AggOne.j0 k t530 t531 (decide (((rd_T33 t531 (wrap64 ((t531.length : Int) - 1))).f0) ≥ 1152921504606846976))) else (none)) else (none))) else (none)) else (marigraphlaw12_AggOne.j0 k t530 t531 true)))))) = some r := h
  clear h
  replace H := Option.bind_eq_some_iff.mp H
  obtain ⟨t530, A20, H⟩ := H
  replace H : ((marigraphlaw12_few.f l0).bind fun t531 => (if (t531.length : Int) = 0 then (marigraphlaw12_AggOne.j0 k t530 t531 true) else ((marigraphref04_Right.f k t531).bind fun t534 => (if t534 = true then (if 0 < (t531.length : Int) then (if ((rd_T33 t531 0).f0) < (-1152921504606846976) then (marigraphlaw12_AggOne.j0 k t530 t531 true) else (if 0 ≤ (wrap64 ((t531.length : Int) - 1)) then (if (wrap64 ((t531.length : Int) - 1)) < (t531.length : Int) then (marigraphlaw12_AggOne.j0 k t530 t531 (decide (((rd_T33 t531 (wrap64 ((t531.length : Int) - 1))).f0) ≥ 1152921504606846976))) else (none)) else (none))) else (none)) else (marigraphlaw12_AggOne.j0 k t530 t531 true))))) = some r := H
  have A2 := Aside0.mk A20
  clear A20
  replace H := Option.bind_eq_some_iff.mp H
  obtain ⟨t531, A30, H⟩ := H
  replace H : (if (t531.length : Int) = 0 then (marigraphlaw12_AggOne.j0 k t530 t531 true) else ((marigraphref04_Right.f k t531).bind fun t534 => (if t534 = true then (if 0 < (t531.length : Int) then (if ((rd_T33 t531 0).f0) < (-1152921504606846976) then (marigraphlaw12_AggOne.j0 k t530 t531 true) else (if 0 ≤ (wrap64 ((t531.length : Int) - 1)) then (if (wrap64 ((t531.length : Int) - 1)) < (t531.length : Int) then (marigraphlaw12_AggOne.j0 k t530 t531 (decide (((rd_T33 t531 (wrap64 ((t531.length : Int) - 1))).f0) ≥ 1152921504606846976))) else (none)) else (none))) else (none)) else (marigraphlaw12_AggOne.j0 k t530 t531 true)))) = some r := H
  have A3 := Aside0.mk A30
  clear A30
  have HC4 := Aside0.mk H
  clear H
  go_enter Try.func17, Try.ntmps17
  go_upto_region 3 with (first | (go_at_call 28; (with_reducible refine (marigraphlaw12_shown.calls k  t530 _ A2.out).mono ?_); rintro e w5 ⟨rfl, hb⟩; have n0_ := Aside0.mk (below_step (by repeat (first | (with_reducible first | exact HB.out | apply below_alloc | apply pw_below_drewN | apply below_drew1) | exact HB.out)) hb); clear HB; have HB := n0_; clear n0_; (try clear hb); (try clear hb2); (try clear hk); (try clear hi)) | (go_at_call 30; (with_reducible refine (marigraphlaw12_few.calls (fun k_ => k_ < w.heap.size) _ _ l0 t531 _ ?side1 A3.out).mono ?_); (case side1 => exact Kd.V_mk HC0.out (Kd.F_below (Kd.C_F k33_heap HR0.out) (by repeat (first | (with_reducible first | exact HB.out | apply below_alloc | apply pw_below_drewN | apply below_drew1) | exact HB.out)))); rintro e w6 ⟨v532, rfl, ho0, hb⟩; have n0_ := Aside0.mk (Kd.V_lower (Kd.V_mono (ok' := fun k_ => True) ho0 (fun k_ hk_ => trivial)) (below_size (by repeat (first | (with_reducible first | exact HB.out | apply below_alloc | apply pw_below_drewN | apply below_drew1) | exact HB.out)))); have n1_ := Aside0.mk (below_step (by repeat (first | (with_reducible first | exact HB.out | apply below_alloc | apply pw_below_drewN | apply below_drew1) | exact HB.out)) hb); clear HB; have HO533 := n0_; have HB := n1_; clear n0_ n1_; (try clear hb); (try clear hb2); (try clear hk); (try clear hi); (try clear ho0)))
  repeat (go_quiet (first | (go_at_call 28; (with_reducible refine (marigraphlaw12_shown.calls k  t530 _ A2.out).mono ?_); rintro e w5 ⟨rfl, hb⟩; have n0_ := Aside0.mk (below_step (by repeat (first | (with_reducible first | exact HB.out | apply below_alloc | apply pw_below_drewN | apply below_drew1) | exact HB.out)) hb); clear HB; have HB := n0_; clear n0_; (try clear hb); (try clear hb2); (try clear hk); (try clear hi)) | (go_at_call 30; (with_reducible refine (marigraphlaw12_few.calls (fun k_ => k_ < w.heap.size) _ _ l0 t531 _ ?side1 A3.out).mono ?_); (case side1 => exact Kd.V_mk HC0.out (Kd.F_below (Kd.C_F k33_heap HR0.out) (by repeat (first | (with_reducible first | exact HB.out | apply below_alloc | apply pw_below_drewN | apply below_drew1) | exact HB.out)))); rintro e w6 ⟨v532, rfl, ho0, hb⟩; have n0_ := Aside0.mk (Kd.V_lower (Kd.V_mono (ok' := fun k_ => True) ho0 (fun k_ hk_ => trivial)) (below_size (by repeat (first | (with_reducible first | exact HB.out | apply below_alloc | apply pw_below_drewN | apply below_drew1) | exact HB.out)))); have n1_ := Aside0.mk (below_step (by repeat (first | (with_reducible first | exact HB.out | apply below_alloc | apply pw_below_drewN | apply below_drew1) | exact HB.out)) hb); clear HB; have HO533 := n0_; have HB := n1_; clear n0_ n1_; (try clear hb); (try clear hb2); (try clear hk); (try clear hi); (try clear ho0))); go_upto_region 3 with (first | (go_at_call 28; (with_reducible refine (marigraphlaw12_shown.calls k  t530 _ A2.out).mono ?_); rintro e w5 ⟨rfl, hb⟩; have n0_ := Aside0.mk (below_step (by repeat (first | (with_reducible first | exact HB.out | apply below_alloc | apply pw_below_drewN | apply below_drew1) | exact HB.out)) hb); clear HB; have HB := n0_; clear n0_; (try clear hb); (try clear hb2); (try clear hk); (try clear hi)) | (go_at_call 30; (with_reducible refine (marigraphlaw12_few.calls (fun k_ => k_ < w.heap.size) _ _ l0 t531 _ ?side1 A3.out).mono ?_); (case side1 => exact Kd.V_mk HC0.out (Kd.F_below (Kd.C_F k33_heap HR0.out) (by repeat (first | (with_reducible first | exact HB.out | apply below_alloc | apply pw_below_drewN | apply below_drew1) | exact HB.out)))); rintro e w6 ⟨v532, rfl, ho0, hb⟩; have n0_ := Aside0.mk (Kd.V_lower (Kd.V_mono (ok' := fun k_ => True) ho0 (fun k_ hk_ => trivial)) (below_size (by repeat (first | (with_reducible first | exact HB.out | apply below_alloc | apply pw_below_drewN | apply below_drew1) | exact HB.out)))); have n1_ := Aside0.mk (below_step (by repeat (first | (with_reducible first | exact HB.out | apply below_alloc | apply pw_below_drewN | apply below_drew1) | exact HB.out)) hb); clear HB; have HO533 := n0_; have HB := n1_; clear n0_ n1_; (try clear hb); (try clear hb2); (try clear hk); (try clear hi); (try clear ho0))))
  (try simp only [Act.put, List.setIfInBounds_toArray, List.set_cons_zero, List.set_cons_succ])
  go_cut [36] (fun v36 wc => ∃ (kq : Nat) (x36_3 : Bool), v36 = .bool x36_3 ∧ Aside0 (marigraphlaw12_AggOne.j0 kq t530 t531 x36_3 = some r) ∧ Aside0 (kq ≤ k) ∧ Aside0 (Kd.V k33 33 wc w.heap.size (fun _ => True) v532 t531) ∧ Aside0 (Below w.heap.size w wc))
  case first =>
    have H := HC4.out
    clear HC4
    by_cases c7 : (t531.length : Int) = 0
    · rw [if_pos c7] at H
      have c7b0 : ((t531.length : Int) == 0) = true := beq_iff_eq.mpr c7
      have c7b1 : ((t531.length : Int) != 0) = false := bne_eq_false_iff_eq.mpr c7
      clear c7
      (first | rw [c7b0] | (simp only [i64_w, i32_w]; rw [c7b0]) | skip)
      have H' := Aside0.mk H
      clear H
      obtain ⟨Ao8, co8, eo8⟩ := Kd.V_slice HO533.out
      subst eo8
      go_wp2
      repeat (go_quiet (fail); try go_wp2)
      go_meet
      case rel => exact ⟨_, (true), (by first | rfl | (simp; done) | (simp [*]; done) | (simp <;> grind)), H', ⟨by first | omega | exact Nat.le_refl _⟩, ⟨by (with_reducible repeat (first | apply Kd.V_alloc | apply Kd.V_drewN | apply Kd.V_drew)); exact HO533.out⟩, ⟨by repeat (first | (with_reducible first | exact HB.out | apply below_alloc | apply pw_below_drewN | apply below_drew1) | exact HB.out)⟩⟩
    · rw [if_neg c7] at H
      have c7b0 : ((t531.length : Int) == 0) = false := beq_eq_false_iff_ne.mpr c7
      have c7b1 : ((t531.length : Int) != 0) = true := bne_iff_ne.mpr c7
      have c7b2 : ¬ (t531 = []) := fun h_ => c7 (by rw [h_]; rfl)
      (first | rw [c7b0] | (simp only [i64_w, i32_w]; rw [c7b0]) | skip)
      replace H := Option.bind_eq_some_iff.mp H
      obtain ⟨t534, A90, H⟩ := H
      replace H : (if t534 = true then (if 0 < (t531.length : Int) then (if ((rd_T33 t531 0).f0) < (-1152921504606846976) then (marigraphlaw12_AggOne.j0 k t530 t531 true) else (if 0 ≤ (wrap64 ((t531.length : Int) - 1)) then (if (wrap64 ((t531.length : Int) - 1)) < (t531.length : Int) then (marigraphlaw12_AggOne.j0 k t530 t531 (decide (((rd_T33 t531 (wrap64 ((t531.length : Int) - 1))).f0) ≥ 1152921504606846976))) else (none)) else (none))) else (none)) else (marigraphlaw12_AggOne.j0 k t530 t531 true)) = some r := H
      have A9 := Aside0.mk A90
      clear A90
      by_cases c10 : t534 = true
      · subst c10
        have H1 : (if 0 < (t531.length : Int) then (if ((rd_T33 t531 0).f0) < (-1152921504606846976) then (marigraphlaw12_AggOne.j0 k t530 t531 true) else (if 0 ≤ (wrap64 ((t531.length : Int) - 1)) then (if (wrap64 ((t531.length : Int) - 1)) < (t531.length : Int) then (marigraphlaw12_AggOne.j0 k t530 t531 (decide (((rd_T33 t531 (wrap64 ((t531.length : Int) - 1))).f0) ≥ 1152921504606846976))) else (none)) else (none))) else (none)) = some r := by rw [if_pos rfl] at H; exact H
        clear H
        have H := H1
        clear H1
        by_cases c11 : 0 < (t531.length : Int)
        · rw [if_pos c11] at H
          have c11b0 : decide (0 < (t531.length : Int)) = true := decide_eq_true c11
          have c11b1 : decide (0 < t531.length) = true := decide_eq_true (by omega)
          clear c11
          by_cases c12 : ((rd_T33 t531 0).f0) < (-1152921504606846976)
          · rw [if_pos c12] at H
            have c12b0 : decide (((rd_T33 t531 0).f0) < (-1152921504606846976)) = true := decide_eq_true c12
            clear c12
            have H' := Aside0.mk H
            clear H
            obtain ⟨Ao13, co13, eo13⟩ := Kd.V_slice HO533.out
            subst eo13
            go_wp2_with (first | (go_at_call 40; (with_reducible refine (marigraphref04_Right.calls k _ _ t531 true _ ?side1 ?side2 A9.out).mono ?_); (case side1 => repeat (first | exact (Kd.V_reads' HO533.out).2.2 | (with_reducible refine Kd.C_alloc ?_ _) | (with_reducible refine Kd.C_drewN ?_ _) | (with_reducible refine Kd.C_drew ?_))); (case side2 => exact (Kd.V_reads' HO533.out).2.1); rintro e w' ⟨rfl, ⟨nd, rfl⟩⟩; (try first | exact ⟨rfl, _, World.drewN_drewN _ _ _⟩ | exact ⟨rfl, _, Eq.trans (World.drewN_drewN _ _ _) (congrArg (World.drewN _) (Nat.add_assoc _ _ _))⟩); have p535 : 0 ≤ (0 : Int) := (by omega); have q535 : 0 < (t531.length : Int) := of_decide_eq_true (by first | (with_reducible assumption) | assumption); obtain ⟨ad535, e535, hx535_0, hx535_1⟩ := at_T33 (Kd.V_reads' HO533.out).2.2 0 p535 q535; cases e535; have qi535 : (0 < t531.length) = True := eq_true (by omega); (try rw [show ((0 : Int)).toNat = 0 from rfl] at hx535_0); (try rw [show 0 * 2 = 0 from rfl] at hx535_0); (try rw [Addr.add_zero'] at hx535_0); (try rw [show ((0 : Int)).toNat = 0 from rfl] at hx535_1); (try rw [show 0 * 2 = 0 from rfl] at hx535_1); (try rw [Addr.add_zero'] at hx535_1); replace p535 := eq_true p535; replace q535 := eq_true q535))
            repeat (go_quiet (first | (go_at_call 40; (with_reducible refine (marigraphref04_Right.calls k _ _ t531 true _ ?side1 ?side2 A9.out).mono ?_); (case side1 => repeat (first | exact (Kd.V_reads' HO533.out).2.2 | (with_reducible refine Kd.C_alloc ?_ _) | (with_reducible refine Kd.C_drewN ?_ _) | (with_reducible refine Kd.C_drew ?_))); (case side2 => exact (Kd.V_reads' HO533.out).2.1); rintro e w' ⟨rfl, ⟨nd, rfl⟩⟩; (try first | exact ⟨rfl, _, World.drewN_drewN _ _ _⟩ | exact ⟨rfl, _, Eq.trans (World.drewN_drewN _ _ _) (congrArg (World.drewN _) (Nat.add_assoc _ _ _))⟩); have p535 : 0 ≤ (0 : Int) := (by omega); have q535 : 0 < (t531.length : Int) := of_decide_eq_true (by first | (with_reducible assumption) | assumption); obtain ⟨ad535, e535, hx535_0, hx535_1⟩ := at_T33 (Kd.V_reads' HO533.out).2.2 0 p535 q535; cases e535; have qi535 : (0 < t531.length) = True := eq_true (by omega); (try rw [show ((0 : Int)).toNat = 0 from rfl] at hx535_0); (try rw [show 0 * 2 = 0 from rfl] at hx535_0); (try rw [Addr.add_zero'] at hx535_0); (try rw [show ((0 : Int)).toNat = 0 from rfl] at hx535_1); (try rw [show 0 * 2 = 0 from rfl] at hx535_1); (try rw [Addr.add_zero'] at hx535_1); replace p535 := eq_true p535; replace q535 := eq_true q535)); try go_wp2_with (first | (go_at_call 40; (with_reducible refine (marigraphref04_Right.calls k _ _ t531 true _ ?side1 ?side2 A9.out).mono ?_); (case side1 => repeat (first | exact (Kd.V_reads' HO533.out).2.2 | (with_reducible refine Kd.C_alloc ?_ _) | (with_reducible refine Kd.C_drewN ?_ _) | (with_reducible refine Kd.C_drew ?_))); (case side2 => exact (Kd.V_reads' HO533.out).2.1); rintro e w' ⟨rfl, ⟨nd, rfl⟩⟩; (try first | exact ⟨rfl, _, World.drewN_drewN _ _ _⟩ | exact ⟨rfl, _, Eq.trans (World.drewN_drewN _ _ _) (congrArg (World.drewN _) (Nat.add_assoc _ _ _))⟩); have p535 : 0 ≤ (0 : Int) := (by omega); have q535 : 0 < (t531.length : Int) := of_decide_eq_true (by first | (with_reducible assumption) | assumption); obtain ⟨ad535, e535, hx535_0, hx535_1⟩ := at_T33 (Kd.V_reads' HO533.out).2.2 0 p535 q535; cases e535; have qi535 : (0 < t531.length) = True := eq_true (by omega); (try rw [show ((0 : Int)).toNat = 0 from rfl] at hx535_0); (try rw [show 0 * 2 = 0 from rfl] at hx535_0); (try rw [Addr.add_zero'] at hx535_0); (try rw [show ((0 : Int)).toNat = 0 from rfl] at hx535_1); (try rw [show 0 * 2 = 0 from rfl] at hx535_1); (try rw [Addr.add_zero'] at hx535_1); replace p535 := eq_true p535; replace q535 := eq_true q535)))
            go_meet
            case rel => exact ⟨_, (true), (by first | rfl | (simp; done) | (simp [*]; done) | (simp <;> grind)), H', ⟨by first | omega | exact Nat.le_refl _⟩, ⟨by (with_reducible repeat (first | apply Kd.V_alloc | apply Kd.V_drewN | apply Kd.V_drew)); exact HO533.out⟩, ⟨by repeat (first | (with_reducible first | exact HB.out | apply below_alloc | apply pw_below_drewN | apply below_drew1) | exact HB.out)⟩⟩
          · rw [if_neg c12] at H
            have c12b0 : decide (((rd_T33 t531 0).f0) < (-1152921504606846976)) = false := decide_eq_false c12
            clear c12
            obtain ⟨ji14, hji14⟩ : ∃ j_ : Int, (wrap64 ((t531.length : Int) - 1)) = j_ := ⟨_, rfl⟩
            replace H : (if 0 ≤ (ji14) then (if (ji14) < (t531.length : Int) then (marigraphlaw12_AggOne.j0 k t530 t531 (decide (((rd_T33 t531 (ji14)).f0) ≥ 1152921504606846976))) else (none)) else (none)) = some r := by first | (rw [hji14] at H; exact H) | (simp only [hji14] at H ⊢; exact H)
            (try rw [hji14] at A9)
            have hji14w : (IntKind.i64.wrap ((t531.length : Int) - 1)) = ji14 := (i64_w _).trans hji14
            by_cases c15 : 0 ≤ (ji14)
            · rw [if_pos c15] at H
              have c15b0 : decide (0 ≤ (ji14)) = true := decide_eq_true c15
              clear c15
              by_cases c16 : (ji14) < (t531.length : Int)
              · rw [if_pos c16] at H
                have c16b0 : decide ((ji14) < (t531.length : Int)) = true := decide_eq_true c16
                clear c16
                have H' := Aside0.mk H
                clear H
                obtain ⟨Ao17, co17, eo17⟩ := Kd.V_slice HO533.out
                subst eo17
                go_wp2_with (first | (go_at_call 40; (with_reducible refine (marigraphref04_Right.calls k _ _ t531 true _ ?side1 ?side2 A9.out).mono ?_); (case side1 => repeat (first | exact (Kd.V_reads' HO533.out).2.2 | (with_reducible refine Kd.C_alloc ?_ _) | (with_reducible refine Kd.C_drewN ?_ _) | (with_reducible refine Kd.C_drew ?_))); (case side2 => exact (Kd.V_reads' HO533.out).2.1); rintro e w' ⟨rfl, ⟨nd, rfl⟩⟩; (try first | exact ⟨rfl, _, World.drewN_drewN _ _ _⟩ | exact ⟨rfl, _, Eq.trans (World.drewN_drewN _ _ _) (congrArg (World.drewN _) (Nat.add_assoc _ _ _))⟩); have p535 : 0 ≤ (0 : Int) := (by omega); have q535 : 0 < (t531.length : Int) := of_decide_eq_true (by first | (with_reducible assumption) | assumption); obtain ⟨ad535, e535, hx535_0, hx535_1⟩ := at_T33 (Kd.V_reads' HO533.out).2.2 0 p535 q535; cases e535; have qi535 : (0 < t531.length) = True := eq_true (by omega); (try rw [show ((0 : Int)).toNat = 0 from rfl] at hx535_0); (try rw [show 0 * 2 = 0 from rfl] at hx535_0); (try rw [Addr.add_zero'] at hx535_0); (try rw [show ((0 : Int)).toNat = 0 from rfl] at hx535_1); (try rw [show 0 * 2 = 0 from rfl] at hx535_1); (try rw [Addr.add_zero'] at hx535_1); replace p535 := eq_true p535; replace q535 := eq_true q535; have p536 : 0 ≤ ((ji14) : Int) := of_decide_eq_true (by first | (with_reducible assumption) | assumption); have q536 : (ji14) < (t531.length : Int) := of_decide_eq_true (by first | (with_reducible assumption) | assumption); obtain ⟨ad536, e536, hx536_0, hx536_1⟩ := at_T33 (Kd.V_reads' HO533.out).2.2 (ji14) p536 q536; obtain rfl : ad535 = ad536 := (by injection e536); replace p536 := eq_true p536; replace q536 := eq_true q536))
                repeat (go_quiet (first | (go_at_call 40; (with_reducible refine (marigraphref04_Right.calls k _ _ t531 true _ ?side1 ?side2 A9.out).mono ?_); (case side1 => repeat (first | exact (Kd.V_reads' HO533.out).2.2 | (with_reducible refine Kd.C_alloc ?_ _) | (with_reducible refine Kd.C_drewN ?_ _) | (with_reducible refine Kd.C_drew ?_))); (case side2 => exact (Kd.V_reads' HO533.out).2.1); rintro e w' ⟨rfl, ⟨nd, rfl⟩⟩; (try first | exact ⟨rfl, _, World.drewN_drewN _ _ _⟩ | exact ⟨rfl, _, Eq.trans (World.drewN_drewN _ _ _) (congrArg (World.drewN _) (Nat.add_assoc _ _ _))⟩); have p535 : 0 ≤ (0 : Int) := (by omega); have q535 : 0 < (t531.length : Int) := of_decide_eq_true (by first | (with_reducible assumption) | assumption); obtain ⟨ad535, e535, hx535_0, hx535_1⟩ := at_T33 (Kd.V_reads' HO533.out).2.2 0 p535 q535; cases e535; have qi535 : (0 < t531.length) = True := eq_true (by omega); (try rw [show ((0 : Int)).toNat = 0 from rfl] at hx535_0); (try rw [show 0 * 2 = 0 from rfl] at hx535_0); (try rw [Addr.add_zero'] at hx535_0); (try rw [show ((0 : Int)).toNat = 0 from rfl] at hx535_1); (try rw [show 0 * 2 = 0 from rfl] at hx535_1); (try rw [Addr.add_zero'] at hx535_1); replace p535 := eq_true p535; replace q535 := eq_true q535; have p536 : 0 ≤ ((ji14) : Int) := of_decide_eq_true (by first | (with_reducible assumption) | assumption); have q536 : (ji14) < (t531.length : Int) := of_decide_eq_true (by first | (with_reducible assumption) | assumption); obtain ⟨ad536, e536, hx536_0, hx536_1⟩ := at_T33 (Kd.V_reads' HO533.out).2.2 (ji14) p536 q536; obtain rfl : ad535 = ad536 := (by injection e536); replace p536 := eq_true p536; replace q536 := eq_true q536)); try go_wp2_with (first | (go_at_call 40; (with_reducible refine (marigraphref04_Right.calls k _ _ t531 true _ ?side1 ?side2 A9.out).mono ?_); (case side1 => repeat (first | exact (Kd.V_reads' HO533.out).2.2 | (with_reducible refine Kd.C_alloc ?_ _) | (with_reducible refine Kd.C_drewN ?_ _) | (with_reducible refine Kd.C_drew ?_))); (case side2 => exact (Kd.V_reads' HO533.out).2.1); rintro e w' ⟨rfl, ⟨nd, rfl⟩⟩; (try first | exact ⟨rfl, _, World.drewN_drewN _ _ _⟩ | exact ⟨rfl, _, Eq.trans (World.drewN_drewN _ _ _) (congrArg (World.drewN _) (Nat.add_assoc _ _ _))⟩); have p535 : 0 ≤ (0 : Int) := (by omega); have q535 : 0 < (t531.length : Int) := of_decide_eq_true (by first | (with_reducible assumption) | assumption); obtain ⟨ad535, e535, hx535_0, hx535_1⟩ := at_T33 (Kd.V_reads' HO533.out).2.2 0 p535 q535; cases e535; have qi535 : (0 < t531.length) = True := eq_true (by omega); (try rw [show ((0 : Int)).toNat = 0 from rfl] at hx535_0); (try rw [show 0 * 2 = 0 from rfl] at hx535_0); (try rw [Addr.add_zero'] at hx535_0); (try rw [show ((0 : Int)).toNat = 0 from rfl] at hx535_1); (try rw [show 0 * 2 = 0 from rfl] at hx535_1); (try rw [Addr.add_zero'] at hx535_1); replace p535 := eq_true p535; replace q535 := eq_true q535; have p536 : 0 ≤ ((ji14) : Int) := of_decide_eq_true (by first | (with_reducible assumption) | assumption); have q536 : (ji14) < (t531.length : Int) := of_decide_eq_true (by first | (with_reducible assumption) | assumption); obtain ⟨ad536, e536, hx536_0, hx536_1⟩ := at_T33 (Kd.V_reads' HO533.out).2.2 (ji14) p536 q536; obtain rfl : ad535 = ad536 := (by injection e536); replace p536 := eq_true p536; replace q536 := eq_true q536)))
                go_meet
                case rel => exact ⟨_, (decide (((rd_T33 t531 (ji14)).f0) ≥ 1152921504606846976)), (by first | rfl | (simp; done) | (simp only [← hji14] <;> (first | rfl | simp)) | (simp [*]; done) | (simp <;> grind)), (by first | exact H' | (simp only [hji14]; exact H')), ⟨by first | omega | exact Nat.le_refl _⟩, ⟨by (with_reducible repeat (first | apply Kd.V_alloc | apply Kd.V_drewN | apply Kd.V_drew)); exact HO533.out⟩, ⟨by repeat (first | (with_reducible first | exact HB.out | apply below_alloc | apply pw_below_drewN | apply below_drew1) | exact HB.out)⟩⟩
              · rw [if_neg c16] at H
                exact absurd H (by simp)
            · rw [if_neg c15] at H
              exact absurd H (by simp)
        · rw [if_neg c11] at H
          exact absurd H (by simp)
      · replace c10 := Bool.eq_false_iff.mpr c10
        subst c10
        have H1 : (marigraphlaw12_AggOne.j0 k t530 t531 true) = some r := by rw [if_neg (show ¬ (false = true) by decide)] at H; exact H
        clear H
        have H := H1
        clear H1
        have H' := Aside0.mk H
        clear H
        obtain ⟨Ao18, co18, eo18⟩ := Kd.V_slice HO533.out
        subst eo18
        go_wp2_with (first | (go_at_call 40; (with_reducible refine (marigraphref04_Right.calls k _ _ t531 false _ ?side1 ?side2 A9.out).mono ?_); (case side1 => repeat (first | exact (Kd.V_reads' HO533.out).2.2 | (with_reducible refine Kd.C_alloc ?_ _) | (with_reducible refine Kd.C_drewN ?_ _) | (with_reducible refine Kd.C_drew ?_))); (case side2 => exact (Kd.V_reads' HO533.out).2.1); rintro e w' ⟨rfl, ⟨nd, rfl⟩⟩; (try first | exact ⟨rfl, _, World.drewN_drewN _ _ _⟩ | exact ⟨rfl, _, Eq.trans (World.drewN_drewN _ _ _) (congrArg (World.drewN _) (Nat.add_assoc _ _ _))⟩)))
        repeat (go_quiet (first | (go_at_call 40; (with_reducible refine (marigraphref04_Right.calls k _ _ t531 false _ ?side1 ?side2 A9.out).mono ?_); (case side1 => repeat (first | exact (Kd.V_reads' HO533.out).2.2 | (with_reducible refine Kd.C_alloc ?_ _) | (with_reducible refine Kd.C_drewN ?_ _) | (with_reducible refine Kd.C_drew ?_))); (case side2 => exact (Kd.V_reads' HO533.out).2.1); rintro e w' ⟨rfl, ⟨nd, rfl⟩⟩; (try first | exact ⟨rfl, _, World.drewN_drewN _ _ _⟩ | exact ⟨rfl, _, Eq.trans (World.drewN_drewN _ _ _) (congrArg (World.drewN _) (Nat.add_assoc _ _ _))⟩))); try go_wp2_with (first | (go_at_call 40; (with_reducible refine (marigraphref04_Right.calls k _ _ t531 false _ ?side1 ?side2 A9.out).mono ?_); (case side1 => repeat (first | exact (Kd.V_reads' HO533.out).2.2 | (with_reducible refine Kd.C_alloc ?_ _) | (with_reducible refine Kd.C_drewN ?_ _) | (with_reducible refine Kd.C_drew ?_))); (case side2 => exact (Kd.V_reads' HO533.out).2.1); rintro e w' ⟨rfl, ⟨nd, rfl⟩⟩; (try first | exact ⟨rfl, _, World.drewN_drewN _ _ _⟩ | exact ⟨rfl, _, Eq.trans (World.drewN_drewN _ _ _) (congrArg (World.drewN _) (Nat.add_assoc _ _ _))⟩))))
        go_meet
        case rel => exact ⟨_, (true), (by first | rfl | (simp; done) | (simp [*]; done) | (simp <;> grind)), H', ⟨by first | omega | exact Nat.le_refl _⟩, ⟨by (with_reducible repeat (first | apply Kd.V_alloc | apply Kd.V_drewN | apply Kd.V_drew)); exact HO533.out⟩, ⟨by repeat (first | (with_reducible first | exact HB.out | apply below_alloc | apply pw_below_drewN | apply below_drew1) | exact HB.out)⟩⟩
  case rest =>
    clear HC4
    try clear c1
    try clear p2
    try clear p5
    try clear q5
    try clear hx5
    try clear qi5
    try clear p6
    try clear c7
    try clear c7b0
    try clear c7b1
    try clear c7b2
    try clear c10
    try clear c11
    try clear c11b0
    try clear c11b1
    try clear c12
    try clear c12b0
    try clear c15
    try clear c15b0
    try clear c16
    try clear c16b0
    try clear c17
    try clear hx535_0
    try clear hx535_1
    try clear hx536_0
    try clear hx536_1
    try clear p535
    try clear p536
    try clear q535
    try clear q536
    obtain ⟨kq, x36_3, rfl, HA, HJ3, HO_4, HB⟩ := hcut
    cases kq with
    | zero => exact absurd HA.out (by simp [marigraphlaw12_AggOne.j0])
    | succ kj3 =>
      have H := HA.out
      clear HA
      simp only [marigraphlaw12_AggOne.j0] at H
      by_cases c19 : x36_3 = true
      · subst c19
        have H1 : (some t530) = some r := by rw [if_pos rfl] at H; exact H
        clear H
        have H := H1
        clear H1
        obtain rfl := Option.some.inj H
        go_wp2
        repeat (go_quiet (fail); try go_wp2)
        go_ret
        exact ⟨by first | rfl | (simp [errW_none, errW_some] <;> rfl) | (simp [*, errW_none, errW_some] <;> rfl), by repeat (first | (with_reducible first | exact HB.out | apply below_alloc | apply pw_below_drewN | apply below_drew1) | exact HB.out)⟩
      · replace c19 := Bool.eq_false_iff.mpr c19
        subst c19
        have H1 : (if 0 < (t531.length : Int) then (if 0 ≤ (wrap64 ((t531.length : Int) - 1)) then (if (wrap64 ((t531.length : Int) - 1)) < (t531.length : Int) then ((agg_Buckets.f kj3 t531 ((rd_T33 t531 0).f0) (wrap64 (((rd_T33 t531 (wrap64 ((t531.length : Int) - 1))).f0) + 1)) (wrap64 ((wrap64 (((rd_T33 t531 (wrap64 ((t531.length : Int) - 1))).f0) + 1)) - ((rd_T33 t531 0).f0)))).bind fun bt539 => (if t530 = true then (if bt539.2 = 0 then ((agg_Of.f kj3 t531).bind fun bt543 => ((marigraphref12_Same.f kj3 bt539.1 (([(⟨(rd_T33 t531 0).f0, (⟨bt543.1, bt543.2.1, bt543.2.2.1, bt543.2.2.2.1, bt543.2.2.2.2.1, bt543.2.2.2.2.2⟩ : S50)⟩ : S68)] : List (S68)))).bind fun t552 => (some t552))) else (some false)) else (some false))) else (none)) else (none)) else (none)) = some r := by rw [if_neg (show ¬ (false = true) by decide)] at H; exact H
        clear H
        have H := H1
        clear H1
        by_cases c20 : 0 < (t531.length : Int)
        · rw [if_pos c20] at H
          have c20b0 : decide (0 < (t531.length : Int)) = true := decide_eq_true c20
          have c20b1 : decide (0 < t531.length) = true := decide_eq_true (by omega)
          clear c20
          obtain ⟨ji21, hji21⟩ : ∃ j_ : Int, (wrap64 ((t531.length : Int) - 1)) = j_ := ⟨_, rfl⟩
          replace H : (if 0 ≤ (ji21) then (if (ji21) < (t531.length : Int) then ((agg_Buckets.f kj3 t531 ((rd_T33 t531 0).f0) (wrap64 (((rd_T33 t531 (ji21)).f0) + 1)) (wrap64 ((wrap64 (((rd_T33 t531 (ji21)).f0) + 1)) - ((rd_T33 t531 0).f0)))).bind fun bt539 => (if t530 = true then (if bt539.2 = 0 then ((agg_Of.f kj3 t531).bind fun bt543 => ((marigraphref12_Same.f kj3 bt539.1 (([(⟨(rd_T33 t531 0).f0, (⟨bt543.1, bt543.2.1, bt543.2.2.1, bt543.2.2.2.1, bt543.2.2.2.2.1, bt543.2.2.2.2.2⟩ : S50)⟩ : S68)] : List (S68)))).bind fun t552 => (some t552))) else (some false)) else (some false))) else (none)) else (none)) = some r := by first | (rw [hji21] at H; exact H) | (simp only [hji21] at H ⊢; exact H)
          have hji21w : (IntKind.i64.wrap ((t531.length : Int) - 1)) = ji21 := (i64_w _).trans hji21
          by_cases c22 : 0 ≤ (ji21)
          · rw [if_pos c22] at H
            have c22b0 : decide (0 ≤ (ji21)) = true := decide_eq_true c22
            clear c22
            by_cases c23 : (ji21) < (t531.length : Int)
            · rw [if_pos c23] at H
              have c23b0 : decide ((ji21) < (t531.length : Int)) = true := decide_eq_true c23
              clear c23
              replace H := Option.bind_eq_some_iff.mp H
              obtain ⟨⟨t539, t540⟩, A240, H⟩ := H
              replace H : (if t530 = true then (if t540 = 0 then ((agg_Of.f kj3 t531).bind fun bt543 => ((marigraphref12_Same.f kj3 t539 (([(⟨(rd_T33 t531 0).f0, (⟨bt543.1, bt543.2.1, bt543.2.2.1, bt543.2.2.2.1, bt543.2.2.2.2.1, bt543.2.2.2.2.2⟩ : S50)⟩ : S68)] : List (S68)))).bind fun t552 => (some t552))) else (some false)) else (some false)) = some r := H
              have A24 := Aside0.mk A240
              clear A240
              by_cases c25 : t530 = true
              · subst c25
                have H1 : (if t540 = 0 then ((agg_Of.f kj3 t531).bind fun bt543 => ((marigraphref12_Same.f kj3 t539 (([(⟨(rd_T33 t531 0).f0, (⟨bt543.1, bt543.2.1, bt543.2.2.1, bt543.2.2.2.1, bt543.2.2.2.2.1, bt543.2.2.2.2.2⟩ : S50)⟩ : S68)] : List (S68)))).bind fun t552 => (some t552))) else (some false)) = some r := by rw [if_pos rfl] at H; exact H
                clear H
                have H := H1
                clear H1
                by_cases c26 : t540 = 0
                · rw [if_pos c26] at H
                  have c26b0 : (t540 == 0) = true := beq_iff_eq.mpr c26
                  have c26b1 : (t540 != 0) = false := bne_eq_false_iff_eq.mpr c26
                  clear c26
                  replace H := Option.bind_eq_some_iff.mp H
                  obtain ⟨⟨t543, t544, t545, t546, t547, t548⟩, A270, H⟩ := H
                  replace H : ((marigraphref12_Same.f kj3 t539 (([(⟨(rd_T33 t531 0).f0, (⟨t543, t544, t545, t546, t547, t548⟩ : S50)⟩ : S68)] : List (S68)))).bind fun t552 => (some t552)) = some r := H
                  have A27 := Aside0.mk A270
                  clear A270
                  obtain ⟨y549, hy549⟩ : ∃ y_ : List (S68), y_ = (([(⟨(rd_T33 t531 0).f0, (⟨t543, t544, t545, t546, t547, t548⟩ : S50)⟩ : S68)] : List (S68))) := ⟨_, rfl⟩
                  replace H : ((marigraphref12_Same.f kj3 t539 y549).bind fun t552 => (some t552)) = some r := by first | (rw [hy549]; with_reducible exact H) | (have H2_ := (Option.bind_some _ _).symm.trans H; rw [hy549]; with_reducible exact H2_) | (have H2_ := (Option.bind_some _ _).symm.trans H; with_reducible exact H2_) | with_reducible exact H | (rw [hy549]; exact H) | exact H
                  have Ny549 := Aside0.mk hy549
                  clear hy549
                  replace H := Option.bind_eq_some_iff.mp H
                  obtain ⟨t552, A280, H⟩ := H
                  replace H : (some t552) = some r := H
                  have A28 := Aside0.mk A280
                  clear A280
                  obtain rfl := Option.some.inj H
                  obtain ⟨Ao29, co29, eo29⟩ := Kd.V_slice HO_4.out
                  subst eo29
                  have p537 : 0 ≤ (0 : Int) := (by omega)
                  have q537 : 0 < (t531.length : Int) := of_decide_eq_true (by first | (with_reducible assumption) | assumption)
                  obtain ⟨ad537, e537, hx537_0, hx537_1⟩ := at_T33 (Kd.V_reads' HO_4.out).2.2 0 p537 q537
                  cases e537
                  have qi537 : (0 < t531.length) = True := eq_true (by omega)
                  (try rw [show ((0 : Int)).toNat = 0 from rfl] at hx537_0)
                  (try rw [show 0 * 2 = 0 from rfl] at hx537_0)
                  (try rw [Addr.add_zero'] at hx537_0)
                  (try rw [show ((0 : Int)).toNat = 0 from rfl] at hx537_1)
                  (try rw [show 0 * 2 = 0 from rfl] at hx537_1)
                  (try rw [Addr.add_zero'] at hx537_1)
                  replace p537 := eq_true p537
                  replace q537 := eq_true q537
                  have p538 : 0 ≤ ((ji21) : Int) := of_decide_eq_true (by first | (with_reducible assumption) | assumption)
                  have q538 : (ji21) < (t531.length : Int) := of_decide_eq_true (by first | (with_reducible assumption) | assumption)
                  obtain ⟨ad538, e538, hx538_0, hx538_1⟩ := at_T33 (Kd.V_reads' HO_4.out).2.2 (ji21) p538 q538
                  obtain rfl : ad537 = ad538 := (by injection e538)
                  replace p538 := eq_true p538
                  replace q538 := eq_true q538
                  go_wp2_with (first | (go_at_call 37; (with_reducible refine (agg_Buckets.calls kj3 _ _ t531 ((rd_T33 t531 0).f0) (wrap64 (((rd_T33 t531 (ji21)).f0) + 1)) (wrap64 ((wrap64 (((rd_T33 t531 (ji21)).f0) + 1)) - ((rd_T33 t531 0).f0))) t539 t540 _ ?side1 ?side2 A24.out).mono ?_); (case side1 => repeat (first | exact (Kd.V_reads' HO_4.out).2.2 | (with_reducible refine Kd.C_alloc ?_ _) | (with_reducible refine Kd.C_drewN ?_ _) | (with_reducible refine Kd.C_drew ?_))); (case side2 => exact (Kd.V_reads' HO_4.out).2.1); rintro e w30 ⟨v541, rfl, ho0, hb⟩; have n0_ := Aside0.mk (Kd.V_elder' (by (with_reducible repeat (first | apply Kd.V_alloc | apply Kd.V_drewN | apply Kd.V_drew)); exact HO_4.out) (Kd.R_base ho0) hb); have n1_ := Aside0.mk (Kd.R_lower ho0 (below_size (by repeat (first | (with_reducible first | exact HB.out | apply below_alloc | apply pw_below_drewN | apply below_drew1) | exact HB.out)))); have n2_ := Aside0.mk (below_step (by repeat (first | (with_reducible first | exact HB.out | apply below_alloc | apply pw_below_drewN | apply below_drew1) | exact HB.out)) hb); clear HO_4; clear HB; have HO_4 := n0_; have HO542 := n1_; have HB := n2_; clear n0_ n1_ n2_; (try clear hb); (try clear hb2); (try clear hk); (try clear hi); (try clear ho0)) | (go_at_call 29; (with_reducible refine (agg_Of.calls kj3 _ _ t531 t543 t544 t545 t546 t547 t548 _ ?side1 ?side2 A27.out).mono ?_); (case side1 => repeat (first | exact (Kd.V_reads' HO_4.out).2.2 | (with_reducible refine Kd.C_alloc ?_ _) | (with_reducible refine Kd.C_drewN ?_ _) | (with_reducible refine Kd.C_drew ?_))); (case side2 => exact (Kd.V_reads' HO_4.out).2.1); rintro e w31 ⟨rfl, hb⟩; have n0_ := Aside0.mk (Kd.V_below (by (with_reducible repeat (first | apply Kd.V_alloc | apply Kd.V_drewN | apply Kd.V_drew)); exact HO_4.out) hb); have n1_ := Aside0.mk (Kd.R_below (by (with_reducible repeat (first | apply Kd.R_alloc | apply Kd.R_drewN | apply Kd.R_drew)); exact HO542.out) hb); have n2_ := Aside0.mk (below_step (by repeat (first | (with_reducible first | exact HB.out | apply below_alloc | apply pw_below_drewN | apply below_drew1) | exact HB.out)) hb); clear HO_4; clear HO542; clear HB; have HO_4 := n0_; have HO542 := n1_; have HB := n2_; clear n0_ n1_ n2_; (try clear hb); (try clear hb2); (try clear hk); (try clear hi)) | ((with_reducible refine gate_dst (N := 71) rfl ?_); (try (refine gate_guard (by rfl) ?_; dsimp only)); refine Kd.R_lit k68 _ 68 ?hg (N := 71) ?hd (xs := ([(⟨(rd_T33 t531 0).f0, (⟨t543, t544, t545, t546, t547, t548⟩ : S50)⟩ : S68)] : List (S68))) (inner := [.int .i64 ((rd_T33 t531 0).f0), .int .i64 t543, .int .i64 t544, .int .i64 t545, .int .i64 t546, .int .i64 t547, .int .i64 t548]) (ok := fun _ => True) (okp := fun _ => True) ?hr ?hp (fun _ hk => hk) trivial (Below.refl _ _) (Nat.le_refl _) (by simp) ?_; (case hd => rfl); (case hg => rfl); (case hr => first | (go_simp; done) | (go_simp; rfl)); (case hp => exact (Reps.c7 (show Kd.M k68 _ _ _ (⟨(rd_T33 t531 0).f0, (⟨t543, t544, t545, t546, t547, t548⟩ : S50)⟩ : S68) [.int .i64 ((rd_T33 t531 0).f0), .int .i64 t543, .int .i64 t544, .int .i64 t545, .int .i64 t546, .int .i64 t547, .int .i64 t548] from (k68_mkM _ _ _ (⟨(rd_T33 t531 0).f0, (⟨t543, t544, t545, t546, t547, t548⟩ : S50)⟩ : S68) )) (Reps.none _ _))); intro v550 w32 ho33 hb hg_ hnew_; clear hg_ hnew_; (first | rw [← Ny549.out] at ho33 | (simp only [Int.reduceToNat] at ho33; rw [← Ny549.out] at ho33)); have n0_ := Aside0.mk (Kd.V_elder' (by (with_reducible repeat (first | apply Kd.V_alloc | apply Kd.V_drewN | apply Kd.V_drew)); exact HO_4.out) (Kd.R_base ho33) hb); have n1_ := Aside0.mk (Kd.R_elder' (by (with_reducible repeat (first | apply Kd.R_alloc | apply Kd.R_drewN | apply Kd.R_drew)); exact HO542.out) (Kd.R_base ho33) hb); have n2_ := Aside0.mk (Kd.R_lower (Kd.R_new' ho33 (Kd.R_lt (by (with_reducible repeat (first | apply Kd.R_alloc | apply Kd.R_drewN | apply Kd.R_drew)); exact HO542.out))) (below_size (by repeat (first | (with_reducible first | exact HB.out | apply below_alloc | apply pw_below_drewN | apply below_drew1) | exact HB.out)))); have n3_ := Aside0.mk (below_step (by repeat (first | (with_reducible first | exact HB.out | apply below_alloc | apply pw_below_drewN | apply below_drew1) | exact HB.out)) hb); clear HO_4; clear HO542; clear HB; have HO_4 := n0_; have HO542 := n1_; have HO551 := n2_; have HB := n3_; clear n0_ n1_ n2_ n3_; clear hb ho33; obtain ⟨Ao34, co34, eo34⟩ := Kd.R_slice HO542.out; subst eo34; obtain ⟨Ao35, co35, eo35⟩ := Kd.R_slice HO551.out; subst eo35) | (go_at_call 39; (with_reducible refine (marigraphref12_Same.calls kj3 _ _ t539 _ _ y549 t552 _ ?side1 ?side2 ?side3 ?side4 A28.out).mono ?_); (case side1 => repeat (first | exact (Kd.R_reads' HO542.out).2.2 | (with_reducible refine Kd.C_alloc ?_ _) | (with_reducible refine Kd.C_drewN ?_ _) | (with_reducible refine Kd.C_drew ?_))); (case side2 => exact (Kd.R_reads' HO542.out).2.1); (case side3 => repeat (first | exact (Kd.R_reads' HO551.out).2.2 | (with_reducible refine Kd.C_alloc ?_ _) | (with_reducible refine Kd.C_drewN ?_ _) | (with_reducible refine Kd.C_drew ?_))); (case side4 => exact (Kd.R_reads' HO551.out).2.1); rintro e w' ⟨rfl, ⟨nd, rfl⟩⟩; (try first | exact ⟨rfl, _, World.drewN_drewN _ _ _⟩ | exact ⟨rfl, _, Eq.trans (World.drewN_drewN _ _ _) (congrArg (World.drewN _) (Nat.add_assoc _ _ _))⟩)))
                  repeat (go_quiet (first | (go_at_call 37; (with_reducible refine (agg_Buckets.calls kj3 _ _ t531 ((rd_T33 t531 0).f0) (wrap64 (((rd_T33 t531 (ji21)).f0) + 1)) (wrap64 ((wrap64 (((rd_T33 t531 (ji21)).f0) + 1)) - ((rd_T33 t531 0).f0))) t539 t540 _ ?side1 ?side2 A24.out).mono ?_); (case side1 => repeat (first | exact (Kd.V_reads' HO_4.out).2.2 | (with_reducible refine Kd.C_alloc ?_ _) | (with_reducible refine Kd.C_drewN ?_ _) | (with_reducible refine Kd.C_drew ?_))); (case side2 => exact (Kd.V_reads' HO_4.out).2.1); rintro e w30 ⟨v541, rfl, ho0, hb⟩; have n0_ := Aside0.mk (Kd.V_elder' (by (with_reducible repeat (first | apply Kd.V_alloc | apply Kd.V_drewN | apply Kd.V_drew)); exact HO_4.out) (Kd.R_base ho0) hb); have n1_ := Aside0.mk (Kd.R_lower ho0 (below_size (by repeat (first | (with_reducible first | exact HB.out | apply below_alloc | apply pw_below_drewN | apply below_drew1) | exact HB.out)))); have n2_ := Aside0.mk (below_step (by repeat (first | (with_reducible first | exact HB.out | apply below_alloc | apply pw_below_drewN | apply below_drew1) | exact HB.out)) hb); clear HO_4; clear HB; have HO_4 := n0_; have HO542 := n1_; have HB := n2_; clear n0_ n1_ n2_; (try clear hb); (try clear hb2); (try clear hk); (try clear hi); (try clear ho0)) | (go_at_call 29; (with_reducible refine (agg_Of.calls kj3 _ _ t531 t543 t544 t545 t546 t547 t548 _ ?side1 ?side2 A27.out).mono ?_); (case side1 => repeat (first | exact (Kd.V_reads' HO_4.out).2.2 | (with_reducible refine Kd.C_alloc ?_ _) | (with_reducible refine Kd.C_drewN ?_ _) | (with_reducible refine Kd.C_drew ?_))); (case side2 => exact (Kd.V_reads' HO_4.out).2.1); rintro e w31 ⟨rfl, hb⟩; have n0_ := Aside0.mk (Kd.V_below (by (with_reducible repeat (first | apply Kd.V_alloc | apply Kd.V_drewN | apply Kd.V_drew)); exact HO_4.out) hb); have n1_ := Aside0.mk (Kd.R_below (by (with_reducible repeat (first | apply Kd.R_alloc | apply Kd.R_drewN | apply Kd.R_drew)); exact HO542.out) hb); have n2_ := Aside0.mk (below_step (by repeat (first | (with_reducible first | exact HB.out | apply below_alloc | apply pw_below_drewN | apply below_drew1) | exact HB.out)) hb); clear HO_4; clear HO542; clear HB; have HO_4 := n0_; have HO542 := n1_; have HB := n2_; clear n0_ n1_ n2_; (try clear hb); (try clear hb2); (try clear hk); (try clear hi)) | ((with_reducible refine gate_dst (N := 71) rfl ?_); (try (refine gate_guard (by rfl) ?_; dsimp only)); refine Kd.R_lit k68 _ 68 ?hg (N := 71) ?hd (xs := ([(⟨(rd_T33 t531 0).f0, (⟨t543, t544, t545, t546, t547, t548⟩ : S50)⟩ : S68)] : List (S68))) (inner := [.int .i64 ((rd_T33 t531 0).f0), .int .i64 t543, .int .i64 t544, .int .i64 t545, .int .i64 t546, .int .i64 t547, .int .i64 t548]) (ok := fun _ => True) (okp := fun _ => True) ?hr ?hp (fun _ hk => hk) trivial (Below.refl _ _) (Nat.le_refl _) (by simp) ?_; (case hd => rfl); (case hg => rfl); (case hr => first | (go_simp; done) | (go_simp; rfl)); (case hp => exact (Reps.c7 (show Kd.M k68 _ _ _ (⟨(rd_T33 t531 0).f0, (⟨t543, t544, t545, t546, t547, t548⟩ : S50)⟩ : S68) [.int .i64 ((rd_T33 t531 0).f0), .int .i64 t543, .int .i64 t544, .int .i64 t545, .int .i64 t546, .int .i64 t547, .int .i64 t548] from (k68_mkM _ _ _ (⟨(rd_T33 t531 0).f0, (⟨t543, t544, t545, t546, t547, t548⟩ : S50)⟩ : S68) )) (Reps.none _ _))); intro v550 w32 ho33 hb hg_ hnew_; clear hg_ hnew_; (first | rw [← Ny549.out] at ho33 | (simp only [Int.reduceToNat] at ho33; rw [← Ny549.out] at ho33)); have n0_ := Aside0.mk (Kd.V_elder' (by (with_reducible repeat (first | apply Kd.V_alloc | apply Kd.V_drewN | apply Kd.V_drew)); exact HO_4.out) (Kd.R_base ho33) hb); have n1_ := Aside0.mk (Kd.R_elder' (by (with_reducible repeat (first | apply Kd.R_alloc | apply Kd.R_drewN | apply Kd.R_drew)); exact HO542.out) (Kd.R_base ho33) hb); have n2_ := Aside0.mk (Kd.R_lower (Kd.R_new' ho33 (Kd.R_lt (by (with_reducible repeat (first | apply Kd.R_alloc | apply Kd.R_drewN | apply Kd.R_drew)); exact HO542.out))) (below_size (by repeat (first | (with_reducible first | exact HB.out | apply below_alloc | apply pw_below_drewN | apply below_drew1) | exact HB.out)))); have n3_ := Aside0.mk (below_step (by repeat (first | (with_reducible first | exact HB.out | apply below_alloc | apply pw_below_drewN | apply below_drew1) | exact HB.out)) hb); clear HO_4; clear HO542; clear HB; have HO_4 := n0_; have HO542 := n1_; have HO551 := n2_; have HB := n3_; clear n0_ n1_ n2_ n3_; clear hb ho33; obtain ⟨Ao34, co34, eo34⟩ := Kd.R_slice HO542.out; subst eo34; obtain ⟨Ao35, co35, eo35⟩ := Kd.R_slice HO551.out; subst eo35) | (go_at_call 39; (with_reducible refine (marigraphref12_Same.calls kj3 _ _ t539 _ _ y549 t552 _ ?side1 ?side2 ?side3 ?side4 A28.out).mono ?_); (case side1 => repeat (first | exact (Kd.R_reads' HO542.out).2.2 | (with_reducible refine Kd.C_alloc ?_ _) | (with_reducible refine Kd.C_drewN ?_ _) | (with_reducible refine Kd.C_drew ?_))); (case side2 => exact (Kd.R_reads' HO542.out).2.1); (case side3 => repeat (first | exact (Kd.R_reads' HO551.out).2.2 | (with_reducible refine Kd.C_alloc ?_ _) | (with_reducible refine Kd.C_drewN ?_ _) | (with_reducible refine Kd.C_drew ?_))); (case side4 => exact (Kd.R_reads' HO551.out).2.1); rintro e w' ⟨rfl, ⟨nd, rfl⟩⟩; (try first | exact ⟨rfl, _, World.drewN_drewN _ _ _⟩ | exact ⟨rfl, _, Eq.trans (World.drewN_drewN _ _ _) (congrArg (World.drewN _) (Nat.add_assoc _ _ _))⟩))); try go_wp2_with (first | (go_at_call 37; (with_reducible refine (agg_Buckets.calls kj3 _ _ t531 ((rd_T33 t531 0).f0) (wrap64 (((rd_T33 t531 (ji21)).f0) + 1)) (wrap64 ((wrap64 (((rd_T33 t531 (ji21)).f0) + 1)) - ((rd_T33 t531 0).f0))) t539 t540 _ ?side1 ?side2 A24.out).mono ?_); (case side1 => repeat (first | exact (Kd.V_reads' HO_4.out).2.2 | (with_reducible refine Kd.C_alloc ?_ _) | (with_reducible refine Kd.C_drewN ?_ _) | (with_reducible refine Kd.C_drew ?_))); (case side2 => exact (Kd.V_reads' HO_4.out).2.1); rintro e w30 ⟨v541, rfl, ho0, hb⟩; have n0_ := Aside0.mk (Kd.V_elder' (by (with_reducible repeat (first | apply Kd.V_alloc | apply Kd.V_drewN | apply Kd.V_drew)); exact HO_4.out) (Kd.R_base ho0) hb); have n1_ := Aside0.mk (Kd.R_lower ho0 (below_size (by repeat (first | (with_reducible first | exact HB.out | apply below_alloc | apply pw_below_drewN | apply below_drew1) | exact HB.out)))); have n2_ := Aside0.mk (below_step (by repeat (first | (with_reducible first | exact HB.out | apply below_alloc | apply pw_below_drewN | apply below_drew1) | exact HB.out)) hb); clear HO_4; clear HB; have HO_4 := n0_; have HO542 := n1_; have HB := n2_; clear n0_ n1_ n2_; (try clear hb); (try clear hb2); (try clear hk); (try clear hi); (try clear ho0)) | (go_at_call 29; (with_reducible refine (agg_Of.calls kj3 _ _ t531 t543 t544 t545 t546 t547 t548 _ ?side1 ?side2 A27.out).mono ?_); (case side1 => repeat (first | exact (Kd.V_reads' HO_4.out).2.2 | (with_reducible refine Kd.C_alloc ?_ _) | (with_reducible refine Kd.C_drewN ?_ _) | (with_reducible refine Kd.C_drew ?_))); (case side2 => exact (Kd.V_reads' HO_4.out).2.1); rintro e w31 ⟨rfl, hb⟩; have n0_ := Aside0.mk (Kd.V_below (by (with_reducible repeat (first | apply Kd.V_alloc | apply Kd.V_drewN | apply Kd.V_drew)); exact HO_4.out) hb); have n1_ := Aside0.mk (Kd.R_below (by (with_reducible repeat (first | apply Kd.R_alloc | apply Kd.R_drewN | apply Kd.R_drew)); exact HO542.out) hb); have n2_ := Aside0.mk (below_step (by repeat (first | (with_reducible first | exact HB.out | apply below_alloc | apply pw_below_drewN | apply below_drew1) | exact HB.out)) hb); clear HO_4; clear HO542; clear HB; have HO_4 := n0_; have HO542 := n1_; have HB := n2_; clear n0_ n1_ n2_; (try clear hb); (try clear hb2); (try clear hk); (try clear hi)) | ((with_reducible refine gate_dst (N := 71) rfl ?_); (try (refine gate_guard (by rfl) ?_; dsimp only)); refine Kd.R_lit k68 _ 68 ?hg (N := 71) ?hd (xs := ([(⟨(rd_T33 t531 0).f0, (⟨t543, t544, t545, t546, t547, t548⟩ : S50)⟩ : S68)] : List (S68))) (inner := [.int .i64 ((rd_T33 t531 0).f0), .int .i64 t543, .int .i64 t544, .int .i64 t545, .int .i64 t546, .int .i64 t547, .int .i64 t548]) (ok := fun _ => True) (okp := fun _ => True) ?hr ?hp (fun _ hk => hk) trivial (Below.refl _ _) (Nat.le_refl _) (by simp) ?_; (case hd => rfl); (case hg => rfl); (case hr => first | (go_simp; done) | (go_simp; rfl)); (case hp => exact (Reps.c7 (show Kd.M k68 _ _ _ (⟨(rd_T33 t531 0).f0, (⟨t543, t544, t545, t546, t547, t548⟩ : S50)⟩ : S68) [.int .i64 ((rd_T33 t531 0).f0), .int .i64 t543, .int .i64 t544, .int .i64 t545, .int .i64 t546, .int .i64 t547, .int .i64 t548] from (k68_mkM _ _ _ (⟨(rd_T33 t531 0).f0, (⟨t543, t544, t545, t546, t547, t548⟩ : S50)⟩ : S68) )) (Reps.none _ _))); intro v550 w32 ho33 hb hg_ hnew_; clear hg_ hnew_; (first | rw [← Ny549.out] at ho33 | (simp only [Int.reduceToNat] at ho33; rw [← Ny549.out] at ho33)); have n0_ := Aside0.mk (Kd.V_elder' (by (with_reducible repeat (first | apply Kd.V_alloc | apply Kd.V_drewN | apply Kd.V_drew)); exact HO_4.out) (Kd.R_base ho33) hb); have n1_ := Aside0.mk (Kd.R_elder' (by (with_reducible repeat (first | apply Kd.R_alloc | apply Kd.R_drewN | apply Kd.R_drew)); exact HO542.out) (Kd.R_base ho33) hb); have n2_ := Aside0.mk (Kd.R_lower (Kd.R_new' ho33 (Kd.R_lt (by (with_reducible repeat (first | apply Kd.R_alloc | apply Kd.R_drewN | apply Kd.R_drew)); exact HO542.out))) (below_size (by repeat (first | (with_reducible first | exact HB.out | apply below_alloc | apply pw_below_drewN | apply below_drew1) | exact HB.out)))); have n3_ := Aside0.mk (below_step (by repeat (first | (with_reducible first | exact HB.out | apply below_alloc | apply pw_below_drewN | apply below_drew1) | exact HB.out)) hb); clear HO_4; clear HO542; clear HB; have HO_4 := n0_; have HO542 := n1_; have HO551 := n2_; have HB := n3_; clear n0_ n1_ n2_ n3_; clear hb ho33; obtain ⟨Ao34, co34, eo34⟩ := Kd.R_slice HO542.out; subst eo34; obtain ⟨Ao35, co35, eo35⟩ := Kd.R_slice HO551.out; subst eo35) | (go_at_call 39; (with_reducible refine (marigraphref12_Same.calls kj3 _ _ t539 _ _ y549 t552 _ ?side1 ?side2 ?side3 ?side4 A28.out).mono ?_); (case side1 => repeat (first | exact (Kd.R_reads' HO542.out).2.2 | (with_reducible refine Kd.C_alloc ?_ _) | (with_reducible refine Kd.C_drewN ?_ _) | (with_reducible refine Kd.C_drew ?_))); (case side2 => exact (Kd.R_reads' HO542.out).2.1); (case side3 => repeat (first | exact (Kd.R_reads' HO551.out).2.2 | (with_reducible refine Kd.C_alloc ?_ _) | (with_reducible refine Kd.C_drewN ?_ _) | (with_reducible refine Kd.C_drew ?_))); (case side4 => exact (Kd.R_reads' HO551.out).2.1); rintro e w' ⟨rfl, ⟨nd, rfl⟩⟩; (try first | exact ⟨rfl, _, World.drewN_drewN _ _ _⟩ | exact ⟨rfl, _, Eq.trans (World.drewN_drewN _ _ _) (congrArg (World.drewN _) (Nat.add_assoc _ _ _))⟩))))
                  go_ret
                  exact ⟨by first | rfl | (simp [errW_none, errW_some] <;> rfl) | (simp only [← hji21]; first | rfl | (simp [errW_none, errW_some] <;> rfl)) | (simp [*, errW_none, errW_some] <;> rfl), by repeat (first | (with_reducible first | exact HB.out | apply below_alloc | apply pw_below_drewN | apply below_drew1) | exact HB.out)⟩
                · rw [if_neg c26] at H
                  have c26b0 : (t540 == 0) = false := beq_eq_false_iff_ne.mpr c26
                  have c26b1 : (t540 != 0) = true := bne_iff_ne.mpr c26
                  obtain rfl := Option.some.inj H
                  obtain ⟨Ao36, co36, eo36⟩ := Kd.V_slice HO_4.out
                  subst eo36
                  have p537 : 0 ≤ (0 : Int) := (by omega)
                  have q537 : 0 < (t531.length : Int) := of_decide_eq_true (by first | (with_reducible assumption) | assumption)
                  obtain ⟨ad537, e537, hx537_0, hx537_1⟩ := at_T33 (Kd.V_reads' HO_4.out).2.2 0 p537 q537
                  cases e537
                  have qi537 : (0 < t531.length) = True := eq_true (by omega)
                  (try rw [show ((0 : Int)).toNat = 0 from rfl] at hx537_0)
                  (try rw [show 0 * 2 = 0 from rfl] at hx537_0)
                  (try rw [Addr.add_zero'] at hx537_0)
                  (try rw [show ((0 : Int)).toNat = 0 from rfl] at hx537_1)
                  (try rw [show 0 * 2 = 0 from rfl] at hx537_1)
                  (try rw [Addr.add_zero'] at hx537_1)
                  replace p537 := eq_true p537
                  replace q537 := eq_true q537
                  have p538 : 0 ≤ ((ji21) : Int) := of_decide_eq_true (by first | (with_reducible assumption) | assumption)
                  have q538 : (ji21) < (t531.length : Int) := of_decide_eq_true (by first | (with_reducible assumption) | assumption)
                  obtain ⟨ad538, e538, hx538_0, hx538_1⟩ := at_T33 (Kd.V_reads' HO_4.out).2.2 (ji21) p538 q538
                  obtain rfl : ad537 = ad538 := (by injection e538)
                  replace p538 := eq_true p538
                  replace q538 := eq_true q538
                  go_wp2_with (first | (go_at_call 37; (with_reducible refine (agg_Buckets.calls kj3 _ _ t531 ((rd_T33 t531 0).f0) (wrap64 (((rd_T33 t531 (ji21)).f0) + 1)) (wrap64 ((wrap64 (((rd_T33 t531 (ji21)).f0) + 1)) - ((rd_T33 t531 0).f0))) t539 t540 _ ?side1 ?side2 A24.out).mono ?_); (case side1 => repeat (first | exact (Kd.V_reads' HO_4.out).2.2 | (with_reducible refine Kd.C_alloc ?_ _) | (with_reducible refine Kd.C_drewN ?_ _) | (with_reducible refine Kd.C_drew ?_))); (case side2 => exact (Kd.V_reads' HO_4.out).2.1); rintro e w37 ⟨v541, rfl, ho0, hb⟩; have n0_ := Aside0.mk (Kd.V_elder' (by (with_reducible repeat (first | apply Kd.V_alloc | apply Kd.V_drewN | apply Kd.V_drew)); exact HO_4.out) (Kd.R_base ho0) hb); have n1_ := Aside0.mk (Kd.R_lower ho0 (below_size (by repeat (first | (with_reducible first | exact HB.out | apply below_alloc | apply pw_below_drewN | apply below_drew1) | exact HB.out)))); have n2_ := Aside0.mk (below_step (by repeat (first | (with_reducible first | exact HB.out | apply below_alloc | apply pw_below_drewN | apply below_drew1) | exact HB.out)) hb); clear HO_4; clear HB; have HO_4 := n0_; have HO542 := n1_; have HB := n2_; clear n0_ n1_ n2_; (try clear hb); (try clear hb2); (try clear hk); (try clear hi); (try clear ho0)))
                  repeat (go_quiet (first | (go_at_call 37; (with_reducible refine (agg_Buckets.calls kj3 _ _ t531 ((rd_T33 t531 0).f0) (wrap64 (((rd_T33 t531 (ji21)).f0) + 1)) (wrap64 ((wrap64 (((rd_T33 t531 (ji21)).f0) + 1)) - ((rd_T33 t531 0).f0))) t539 t540 _ ?side1 ?side2 A24.out).mono ?_); (case side1 => repeat (first | exact (Kd.V_reads' HO_4.out).2.2 | (with_reducible refine Kd.C_alloc ?_ _) | (with_reducible refine Kd.C_drewN ?_ _) | (with_reducible refine Kd.C_drew ?_))); (case side2 => exact (Kd.V_reads' HO_4.out).2.1); rintro e w37 ⟨v541, rfl, ho0, hb⟩; have n0_ := Aside0.mk (Kd.V_elder' (by (with_reducible repeat (first | apply Kd.V_alloc | apply Kd.V_drewN | apply Kd.V_drew)); exact HO_4.out) (Kd.R_base ho0) hb); have n1_ := Aside0.mk (Kd.R_lower ho0 (below_size (by repeat (first | (with_reducible first | exact HB.out | apply below_alloc | apply pw_below_drewN | apply below_drew1) | exact HB.out)))); have n2_ := Aside0.mk (below_step (by repeat (first | (with_reducible first | exact HB.out | apply below_alloc | apply pw_below_drewN | apply below_drew1) | exact HB.out)) hb); clear HO_4; clear HB; have HO_4 := n0_; have HO542 := n1_; have HB := n2_; clear n0_ n1_ n2_; (try clear hb); (try clear hb2); (try clear hk); (try clear hi); (try clear ho0))); try go_wp2_with (first | (go_at_call 37; (with_reducible refine (agg_Buckets.calls kj3 _ _ t531 ((rd_T33 t531 0).f0) (wrap64 (((rd_T33 t531 (ji21)).f0) + 1)) (wrap64 ((wrap64 (((rd_T33 t531 (ji21)).f0) + 1)) - ((rd_T33 t531 0).f0))) t539 t540 _ ?side1 ?side2 A24.out).mono ?_); (case side1 => repeat (first | exact (Kd.V_reads' HO_4.out).2.2 | (with_reducible refine Kd.C_alloc ?_ _) | (with_reducible refine Kd.C_drewN ?_ _) | (with_reducible refine Kd.C_drew ?_))); (case side2 => exact (Kd.V_reads' HO_4.out).2.1); rintro e w37 ⟨v541, rfl, ho0, hb⟩; have n0_ := Aside0.mk (Kd.V_elder' (by (with_reducible repeat (first | apply Kd.V_alloc | apply Kd.V_drewN | apply Kd.V_drew)); exact HO_4.out) (Kd.R_base ho0) hb); have n1_ := Aside0.mk (Kd.R_lower ho0 (below_size (by repeat (first | (with_reducible first | exact HB.out | apply below_alloc | apply pw_below_drewN | apply below_drew1) | exact HB.out)))); have n2_ := Aside0.mk (below_step (by repeat (first | (with_reducible first | exact HB.out | apply below_alloc | apply pw_below_drewN | apply below_drew1) | exact HB.out)) hb); clear HO_4; clear HB; have HO_4 := n0_; have HO542 := n1_; have HB := n2_; clear n0_ n1_ n2_; (try clear hb); (try clear hb2); (try clear hk); (try clear hi); (try clear ho0))))
                  go_ret
                  exact ⟨by first | rfl | (simp [errW_none, errW_some] <;> rfl) | (simp only [← hji21]; first | rfl | (simp [errW_none, errW_some] <;> rfl)) | (simp [*, errW_none, errW_some] <;> rfl), by repeat (first | (with_reducible first | exact HB.out | apply below_alloc | apply pw_below_drewN | apply below_drew1) | exact HB.out)⟩
              · replace c25 := Bool.eq_false_iff.mpr c25
                subst c25
                have H1 : (some false) = some r := by rw [if_neg (show ¬ (false = true) by decide)] at H; exact H
                clear H
                have H := H1
                clear H1
                obtain rfl := Option.some.inj H
                obtain ⟨Ao38, co38, eo38⟩ := Kd.V_slice HO_4.out
                subst eo38
                have p537 : 0 ≤ (0 : Int) := (by omega)
                have q537 : 0 < (t531.length : Int) := of_decide_eq_true (by first | (with_reducible assumption) | assumption)
                obtain ⟨ad537, e537, hx537_0, hx537_1⟩ := at_T33 (Kd.V_reads' HO_4.out).2.2 0 p537 q537
                cases e537
                have qi537 : (0 < t531.length) = True := eq_true (by omega)
                (try rw [show ((0 : Int)).toNat = 0 from rfl] at hx537_0)
                (try rw [show 0 * 2 = 0 from rfl] at hx537_0)
                (try rw [Addr.add_zero'] at hx537_0)
                (try rw [show ((0 : Int)).toNat = 0 from rfl] at hx537_1)
                (try rw [show 0 * 2 = 0 from rfl] at hx537_1)
                (try rw [Addr.add_zero'] at hx537_1)
                replace p537 := eq_true p537
                replace q537 := eq_true q537
                have p538 : 0 ≤ ((ji21) : Int) := of_decide_eq_true (by first | (with_reducible assumption) | assumption)
                have q538 : (ji21) < (t531.length : Int) := of_decide_eq_true (by first | (with_reducible assumption) | assumption)
                obtain ⟨ad538, e538, hx538_0, hx538_1⟩ := at_T33 (Kd.V_reads' HO_4.out).2.2 (ji21) p538 q538
                obtain rfl : ad537 = ad538 := (by injection e538)
                replace p538 := eq_true p538
                replace q538 := eq_true q538
                go_wp2_with (first | (go_at_call 37; (with_reducible refine (agg_Buckets.calls kj3 _ _ t531 ((rd_T33 t531 0).f0) (wrap64 (((rd_T33 t531 (ji21)).f0) + 1)) (wrap64 ((wrap64 (((rd_T33 t531 (ji21)).f0) + 1)) - ((rd_T33 t531 0).f0))) t539 t540 _ ?side1 ?side2 A24.out).mono ?_); (case side1 => repeat (first | exact (Kd.V_reads' HO_4.out).2.2 | (with_reducible refine Kd.C_alloc ?_ _) | (with_reducible refine Kd.C_drewN ?_ _) | (with_reducible refine Kd.C_drew ?_))); (case side2 => exact (Kd.V_reads' HO_4.out).2.1); rintro e w39 ⟨v541, rfl, ho0, hb⟩; have n0_ := Aside0.mk (Kd.V_elder' (by (with_reducible repeat (first | apply Kd.V_alloc | apply Kd.V_drewN | apply Kd.V_drew)); exact HO_4.out) (Kd.R_base ho0) hb); have n1_ := Aside0.mk (Kd.R_lower ho0 (below_size (by repeat (first | (with_reducible first | exact HB.out | apply below_alloc | apply pw_below_drewN | apply below_drew1) | exact HB.out)))); have n2_ := Aside0.mk (below_step (by repeat (first | (with_reducible first | exact HB.out | apply below_alloc | apply pw_below_drewN | apply below_drew1) | exact HB.out)) hb); clear HO_4; clear HB; have HO_4 := n0_; have HO542 := n1_; have HB := n2_; clear n0_ n1_ n2_; (try clear hb); (try clear hb2); (try clear hk); (try clear hi); (try clear ho0)))
                repeat (go_quiet (first | (go_at_call 37; (with_reducible refine (agg_Buckets.calls kj3 _ _ t531 ((rd_T33 t531 0).f0) (wrap64 (((rd_T33 t531 (ji21)).f0) + 1)) (wrap64 ((wrap64 (((rd_T33 t531 (ji21)).f0) + 1)) - ((rd_T33 t531 0).f0))) t539 t540 _ ?side1 ?side2 A24.out).mono ?_); (case side1 => repeat (first | exact (Kd.V_reads' HO_4.out).2.2 | (with_reducible refine Kd.C_alloc ?_ _) | (with_reducible refine Kd.C_drewN ?_ _) | (with_reducible refine Kd.C_drew ?_))); (case side2 => exact (Kd.V_reads' HO_4.out).2.1); rintro e w39 ⟨v541, rfl, ho0, hb⟩; have n0_ := Aside0.mk (Kd.V_elder' (by (with_reducible repeat (first | apply Kd.V_alloc | apply Kd.V_drewN | apply Kd.V_drew)); exact HO_4.out) (Kd.R_base ho0) hb); have n1_ := Aside0.mk (Kd.R_lower ho0 (below_size (by repeat (first | (with_reducible first | exact HB.out | apply below_alloc | apply pw_below_drewN | apply below_drew1) | exact HB.out)))); have n2_ := Aside0.mk (below_step (by repeat (first | (with_reducible first | exact HB.out | apply below_alloc | apply pw_below_drewN | apply below_drew1) | exact HB.out)) hb); clear HO_4; clear HB; have HO_4 := n0_; have HO542 := n1_; have HB := n2_; clear n0_ n1_ n2_; (try clear hb); (try clear hb2); (try clear hk); (try clear hi); (try clear ho0))); try go_wp2_with (first | (go_at_call 37; (with_reducible refine (agg_Buckets.calls kj3 _ _ t531 ((rd_T33 t531 0).f0) (wrap64 (((rd_T33 t531 (ji21)).f0) + 1)) (wrap64 ((wrap64 (((rd_T33 t531 (ji21)).f0) + 1)) - ((rd_T33 t531 0).f0))) t539 t540 _ ?side1 ?side2 A24.out).mono ?_); (case side1 => repeat (first | exact (Kd.V_reads' HO_4.out).2.2 | (with_reducible refine Kd.C_alloc ?_ _) | (with_reducible refine Kd.C_drewN ?_ _) | (with_reducible refine Kd.C_drew ?_))); (case side2 => exact (Kd.V_reads' HO_4.out).2.1); rintro e w39 ⟨v541, rfl, ho0, hb⟩; have n0_ := Aside0.mk (Kd.V_elder' (by (with_reducible repeat (first | apply Kd.V_alloc | apply Kd.V_drewN | apply Kd.V_drew)); exact HO_4.out) (Kd.R_base ho0) hb); have n1_ := Aside0.mk (Kd.R_lower ho0 (below_size (by repeat (first | (with_reducible first | exact HB.out | apply below_alloc | apply pw_below_drewN | apply below_drew1) | exact HB.out)))); have n2_ := Aside0.mk (below_step (by repeat (first | (with_reducible first | exact HB.out | apply below_alloc | apply pw_below_drewN | apply below_drew1) | exact HB.out)) hb); clear HO_4; clear HB; have HO_4 := n0_; have HO542 := n1_; have HB := n2_; clear n0_ n1_ n2_; (try clear hb); (try clear hb2); (try clear hk); (try clear hi); (try clear ho0))))
                go_ret
                exact ⟨by first | rfl | (simp [errW_none, errW_some] <;> rfl) | (simp only [← hji21]; first | rfl | (simp [errW_none, errW_some] <;> rfl)) | (simp [*, errW_none, errW_some] <;> rfl), by repeat (first | (with_reducible first | exact HB.out | apply below_alloc | apply pw_below_drewN | apply below_drew1) | exact HB.out)⟩
            · rw [if_neg c23] at H
              exact absurd H (by simp)
          · rw [if_neg c22] at H
            exact absurd H (by simp)
        · rw [if_neg c20] at H
          exact absurd H (by simp)

end Go.Proofs.Ytjkpdjadbeidnaa.X
