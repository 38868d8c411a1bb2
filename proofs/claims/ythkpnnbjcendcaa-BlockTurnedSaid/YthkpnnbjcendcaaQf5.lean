/- What the law leans on, part 5: Xa, Ga. -/
import Derived.Test.YthkpnnbjcendcaaQf4
section
/- X1, X9, X16, X17, X18, X24, X25, X26, X27, X28, X30, X40, X43, X44, X53, X59, X60, X62, X65, put together. -/
section
-- By xprint.py, out of the translation's own print. Lean checks it.
namespace Go.Proofs.Ythkpnnbjcendcaa.X
open Go.RowKit Go.Proofs.YthkpnnbjcendcaaW.PrintWords Go.Proofs.YthkpnnbjcendcaaW.PrintLast Go.Proofs.YthkpnnbjcendcaaW.PrintMore
attribute [local go_sem] max2_int min2_int max_two min_two max_three min_three max_four min_four   -- for this text's walks alone
set_option linter.unusedVariables false
set_option linter.unusedSimpArgs false

theorem eqA52 (d : Nat) (w : World) (x0 y0 : Int) (x1 y1 : Int) :
    (Op.equalIn (d + 2) 52 (.agg #[.int .i64 x0, .int .i64 x1]) (.agg #[.int .i64 y0, .int .i64 y1])).run Try.prog w = .ok (x0 == y0 && (x1 == y1)) w := by
  refine eqA_of Try.underlying52 (by kernel_rfl) ?_
  refine eqf_cons (by rfl) (by go_simp; rfl) (by go_simp; rfl) (by go_simp) ?_
  exact eqf_last (by rfl) (by go_simp; rfl) (by go_simp; rfl) (by go_simp)
end Go.Proofs.Ythkpnnbjcendcaa.X
end
section
-- By xprint.py, out of the translation's own print. Lean checks it.
namespace Go.Proofs.Ythkpnnbjcendcaa.X
open Go.RowKit Go.Proofs.YthkpnnbjcendcaaW.PrintWords Go.Proofs.YthkpnnbjcendcaaW.PrintLast Go.Proofs.YthkpnnbjcendcaaW.PrintMore
attribute [local go_sem] max2_int min2_int max_two min_two max_three min_three max_four min_four   -- for this text's walks alone
set_option linter.unusedVariables false
set_option linter.unusedSimpArgs false

/-! ### marigraphref02_fits: function 61 -/
def marigraphref02_fits.l0 : Nat → Int → Int → Int → Option (Bool)
  | 0, _, _, _ => none
  | k + 1, x0, x1, x5 => if x5 < x1 then (marigraphref02_fits.l0 k (IntKind.u64.wrap (Int.tdiv x0 2)) x1 (wrap64 (x5 + 1))) else (some (x0 == 0))
def marigraphref02_fits.f (k : Nat) (a0 : Int) (a1 : Int) : Option (Bool) := marigraphref02_fits.l0 k a0 a1 0
set_option maxHeartbeats 8000000 in
set_option maxRecDepth 100000 in
theorem marigraphref02_fits.calls (k : Nat) (a0 : Int) (a1 : Int) (r : Bool) (w : World) (h : marigraphref02_fits.f k a0 a1 = some r) :
    Calls Try.prog 61 #[.int .u64 a0, .int .i64 a1] w fun e w' => e = .returned (.bool r) ∧ Drawn0 w w' := by
  have H : (marigraphref02_fits.l0 k a0 a1 0) = some r := h
  clear h
  have H' := Aside0.mk H
  clear H
  go_enter Try.func61, Try.ntmps61
  go_wp2
  go_loopg [0, 5] k (fun kq v0 v5 w' => ∃ (x0_1 : Int) (x5_1 : Int), v0 = .int .u64 x0_1 ∧ v5 = .int .i64 x5_1 ∧ Aside0 (marigraphref02_fits.l0 kq x0_1 a1 x5_1 = some r) ∧ Aside0 (kq ≤ k) ∧ Drawn0 w w')
  case atStart => exact ⟨(a0), (0), (by first | rfl | (simp; done) | (simp [*]; done) | (simp <;> grind)), (by first | rfl | (simp; done) | (simp [*]; done) | (simp <;> grind)), H', ⟨Nat.le_refl _⟩, by repeat (first | exact Drawn0.refl _ | apply Drawn0.step)⟩
  case round =>
    clear H'
    try clear p2
    obtain ⟨x0_1, x5_1, rfl, rfl, HA, HK1, ⟨m1, rfl⟩⟩ := hrel
    cases gk with
    | zero => exact absurd HA.out (by simp [marigraphref02_fits.l0])
    | succ k1 =>
      have H := HA.out
      clear HA
      simp only [marigraphref02_fits.l0] at H
      by_cases c3 : x5_1 < a1
      · rw [if_pos c3] at H
        have c3b0 : decide (x5_1 < a1) = true := decide_eq_true c3
        clear c3
        have H' := Aside0.mk H
        clear H
        go_wp2
        go_roundg k1
        case measure => have := HK1.out; omega
        case rel => exact ⟨(IntKind.u64.wrap (Int.tdiv x0_1 2)), (wrap64 (x5_1 + 1)), (by first | rfl | (simp; done) | (simp [*]; done) | (simp <;> grind)), (by first | rfl | (simp; done) | (simp [*]; done) | (simp <;> grind)), H', ⟨by have := HK1.out; omega⟩, by repeat (first | exact Drawn0.refl _ | apply Drawn0.step)⟩
      · rw [if_neg c3] at H
        have c3b0 : decide (x5_1 < a1) = false := decide_eq_false c3
        clear c3
        obtain rfl := Option.some.inj H
        go_wp2
        go_ret
        exact ⟨by first | rfl | (simp; done) | (simp [*]; done) | (simp <;> grind), by repeat (first | exact Drawn0.refl _ | apply Drawn0.step)⟩

end Go.Proofs.Ythkpnnbjcendcaa.X
end
section
-- By xprint.py, out of the translation's own print. Lean checks it.
namespace Go.Proofs.Ythkpnnbjcendcaa.X
open Go.RowKit Go.Proofs.YthkpnnbjcendcaaW.PrintWords Go.Proofs.YthkpnnbjcendcaaW.PrintLast Go.Proofs.YthkpnnbjcendcaaW.PrintMore
attribute [local go_sem] max2_int min2_int max_two min_two max_three min_three max_four min_four   -- for this text's walks alone
set_option linter.unusedVariables false
set_option linter.unusedSimpArgs false

/-! ### steps_Right: function 33 -/
def steps_Right.l0 : Nat → List (S52) → Int → Int → Option (Bool)
  | 0, _, _, _ => none
  | k + 1, x0, x5, x6 => if x6 < x5 then (if x6 > 0 then (if 0 ≤ (wrap64 (x6 - 1)) then (if (wrap64 (x6 - 1)) < (x0.length : Int) then (if 0 ≤ x6 then (if x6 < (x0.length : Int) then (if ((rd_T52 x0 (wrap64 (x6 - 1))).f0) ≥ ((rd_T52 x0 x6).f0) then (some false) else (steps_Right.l0 k x0 x5 (wrap64 (x6 + 1)))) else (none)) else (none)) else (none)) else (none)) else (steps_Right.l0 k x0 x5 (wrap64 (x6 + 1)))) else (some true)
def steps_Right.f (k : Nat) (l0 : List (S52)) : Option (Bool) := steps_Right.l0 k l0 (l0.length : Int) 0
set_option maxHeartbeats 8000000 in
set_option maxRecDepth 100000 in
theorem steps_Right.calls (k : Nat) (A0 : Option Addr) (c0 : Nat) (l0 : List (S52)) (r : Bool) (w : World) (hr0 : Kd.C k52 w A0 l0.length l0) (hc0 : l0.length ≤ c0) (h : steps_Right.f k l0 = some r) :
    Calls Try.prog 33 #[.slice A0 l0.length c0] w fun e w' => e = .returned (.bool r) ∧ Drawn0 w w' := by
  have HR0 := Aside0.mk hr0
  have HC0 := Aside0.mk hc0
  clear hr0 hc0
  have H : (steps_Right.l0 k l0 (l0.length : Int) 0) = some r := h
  clear h
  have H' := Aside0.mk H
  clear H
  go_enter Try.func33, Try.ntmps33
  go_wp2
  repeat (go_quiet (fail); try go_wp2)
  go_loopg [6] k (fun kq v6 w' => ∃ (x6_1 : Int), v6 = .int .i64 x6_1 ∧ Aside0 (steps_Right.l0 kq l0 (l0.length : Int) x6_1 = some r) ∧ Aside0 (kq ≤ k) ∧ Drawn0 w w')
  case atStart => exact ⟨(0), (by first | rfl | (simp; done) | (simp [*]; done) | (simp <;> grind)), H', ⟨Nat.le_refl _⟩, by repeat (first | exact Drawn0.refl _ | apply Drawn0.step)⟩
  case round =>
    clear H'
    obtain ⟨x6_1, rfl, HA, HK1, ⟨m1, rfl⟩⟩ := hrel
    cases gk with
    | zero => exact absurd HA.out (by simp [steps_Right.l0])
    | succ k1 =>
      have H := HA.out
      clear HA
      simp only [steps_Right.l0] at H
      by_cases c2 : x6_1 < (l0.length : Int)
      · rw [if_pos c2] at H
        have c2b0 : decide (x6_1 < (l0.length : Int)) = true := decide_eq_true c2
        clear c2
        by_cases c3 : x6_1 > 0
        · rw [if_pos c3] at H
          have c3b0 : decide (0 < x6_1) = true := decide_eq_true c3
          clear c3
          obtain ⟨ji4, hji4⟩ : ∃ j_ : Int, (wrap64 (x6_1 - 1)) = j_ := ⟨_, rfl⟩
          replace H : (if 0 ≤ (ji4) then (if (ji4) < (l0.length : Int) then (if 0 ≤ x6_1 then (if x6_1 < (l0.length : Int) then (if ((rd_T52 l0 (ji4)).f0) ≥ ((rd_T52 l0 x6_1).f0) then (some false) else (steps_Right.l0 k1 l0 (l0.length : Int) (wrap64 (x6_1 + 1)))) else (none)) else (none)) else (none)) else (none)) = some r := by first | (rw [hji4] at H; exact H) | (simp only [hji4] at H ⊢; exact H)
          have hji4w : (IntKind.i64.wrap (x6_1 - 1)) = ji4 := (i64_w _).trans hji4
          by_cases c5 : 0 ≤ (ji4)
          · rw [if_pos c5] at H
            have c5b0 : decide (0 ≤ (ji4)) = true := decide_eq_true c5
            clear c5
            by_cases c6 : (ji4) < (l0.length : Int)
            · rw [if_pos c6] at H
              have c6b0 : decide ((ji4) < (l0.length : Int)) = true := decide_eq_true c6
              clear c6
              by_cases c7 : 0 ≤ x6_1
              · rw [if_pos c7] at H
                have c7b0 : decide (0 ≤ x6_1) = true := decide_eq_true c7
                clear c7
                by_cases c8 : x6_1 < (l0.length : Int)
                · rw [if_pos c8] at H
                  have c8b0 : decide (x6_1 < (l0.length : Int)) = true := decide_eq_true c8
                  clear c8
                  by_cases c9 : ((rd_T52 l0 (ji4)).f0) ≥ ((rd_T52 l0 x6_1).f0)
                  · rw [if_pos c9] at H
                    have c9b0 : decide (((rd_T52 l0 x6_1).f0) ≤ ((rd_T52 l0 (ji4)).f0)) = true := decide_eq_true c9
                    clear c9
                    obtain rfl := Option.some.inj H
                    have p130 : 0 ≤ ((ji4) : Int) := of_decide_eq_true (by first | (with_reducible assumption) | assumption)
                    have q130 : (ji4) < (l0.length : Int) := of_decide_eq_true (by first | (with_reducible assumption) | assumption)
                    obtain ⟨ad130, e130, hx130_0, hx130_1⟩ := at_T52 HR0.out (ji4) p130 q130
                    cases e130
                    replace p130 := eq_true p130
                    replace q130 := eq_true q130
                    have p131 : 0 ≤ (x6_1 : Int) := of_decide_eq_true (by first | (with_reducible assumption) | assumption)
                    have q131 : x6_1 < (l0.length : Int) := of_decide_eq_true (by first | (with_reducible assumption) | assumption)
                    obtain ⟨ad131, e131, hx131_0, hx131_1⟩ := at_T52 HR0.out x6_1 p131 q131
                    obtain rfl : ad130 = ad131 := (by injection e131)
                    replace p131 := eq_true p131
                    replace q131 := eq_true q131
                    go_wp2
                    repeat (go_quiet (fail); try go_wp2)
                    go_ret
                    exact ⟨by first | rfl | (simp; done) | (simp only [← hji4] <;> (first | rfl | simp)) | (simp [*]; done) | (simp <;> grind), by repeat (first | exact Drawn0.refl _ | apply Drawn0.step)⟩
                  · rw [if_neg c9] at H
                    have c9b0 : decide (((rd_T52 l0 x6_1).f0) ≤ ((rd_T52 l0 (ji4)).f0)) = false := decide_eq_false c9
                    clear c9
                    have H' := Aside0.mk H
                    clear H
                    have p130 : 0 ≤ ((ji4) : Int) := of_decide_eq_true (by first | (with_reducible assumption) | assumption)
                    have q130 : (ji4) < (l0.length : Int) := of_decide_eq_true (by first | (with_reducible assumption) | assumption)
                    obtain ⟨ad130, e130, hx130_0, hx130_1⟩ := at_T52 HR0.out (ji4) p130 q130
                    cases e130
                    replace p130 := eq_true p130
                    replace q130 := eq_true q130
                    have p131 : 0 ≤ (x6_1 : Int) := of_decide_eq_true (by first | (with_reducible assumption) | assumption)
                    have q131 : x6_1 < (l0.length : Int) := of_decide_eq_true (by first | (with_reducible assumption) | assumption)
                    obtain ⟨ad131, e131, hx131_0, hx131_1⟩ := at_T52 HR0.out x6_1 p131 q131
                    obtain rfl : ad130 = ad131 := (by injection e131)
                    replace p131 := eq_true p131
                    replace q131 := eq_true q131
                    go_wp2
                    repeat (go_quiet (fail); try go_wp2)
                    go_roundg k1
                    case measure => have := HK1.out; omega
                    case rel => exact ⟨(wrap64 (x6_1 + 1)), (by first | rfl | (simp; done) | (simp [*]; done) | (simp <;> grind)), (by first | exact H' | (simp only [hji4]; exact H')), ⟨by have := HK1.out; omega⟩, by repeat (first | exact Drawn0.refl _ | apply Drawn0.step)⟩
                · rw [if_neg c8] at H
                  exact absurd H (by simp)
              · rw [if_neg c7] at H
                exact absurd H (by simp)
            · rw [if_neg c6] at H
              exact absurd H (by simp)
          · rw [if_neg c5] at H
            exact absurd H (by simp)
        · rw [if_neg c3] at H
          have c3b0 : decide (0 < x6_1) = false := decide_eq_false c3
          clear c3
          have H' := Aside0.mk H
          clear H
          go_wp2
          repeat (go_quiet (fail); try go_wp2)
          go_roundg k1
          case measure => have := HK1.out; omega
          case rel => exact ⟨(wrap64 (x6_1 + 1)), (by first | rfl | (simp; done) | (simp [*]; done) | (simp <;> grind)), H', ⟨by have := HK1.out; omega⟩, by repeat (first | exact Drawn0.refl _ | apply Drawn0.step)⟩
      · rw [if_neg c2] at H
        have c2b0 : decide (x6_1 < (l0.length : Int)) = false := decide_eq_false c2
        clear c2
        obtain rfl := Option.some.inj H
        go_wp2
        repeat (go_quiet (fail); try go_wp2)
        go_ret
        exact ⟨by first | rfl | (simp; done) | (simp [*]; done) | (simp <;> grind), by repeat (first | exact Drawn0.refl _ | apply Drawn0.step)⟩

end Go.Proofs.Ythkpnnbjcendcaa.X
end
section
-- By xprint.py, out of the translation's own print. Lean checks it.
namespace Go.Proofs.Ythkpnnbjcendcaa.X
open Go.RowKit Go.Proofs.YthkpnnbjcendcaaW.PrintWords Go.Proofs.YthkpnnbjcendcaaW.PrintLast Go.Proofs.YthkpnnbjcendcaaW.PrintMore
attribute [local go_sem] max2_int min2_int max_two min_two max_three min_three max_four min_four   -- for this text's walks alone
set_option linter.unusedVariables false
set_option linter.unusedSimpArgs false

/-! ### octs_Fold: function 96 -/
def octs_Fold.f (a0 : Int) : Option (Int) := some (Go.bits .xor .u64 (IntKind.u64.wrap ((IntKind.u64.wrap (a0)) * 2)) (IntKind.u64.wrap (a0 / 9223372036854775808)))
set_option maxHeartbeats 8000000 in
set_option maxRecDepth 100000 in
theorem octs_Fold.calls (a0 : Int) (r : Int) (w : World) (h : octs_Fold.f a0 = some r) :
    Calls Try.prog 96 #[.int .i64 a0] w fun e w' => e = .returned (.int .u64 r) ∧ Drawn0 w w' := by
  have H : (some (Go.bits .xor .u64 (IntKind.u64.wrap ((IntKind.u64.wrap (a0)) * 2)) (IntKind.u64.wrap (a0 / 9223372036854775808)))) = some r := h
  clear h
  obtain rfl := Option.some.inj H
  go_enter Try.func96, Try.ntmps96
  go_wp2
  go_ret
  exact ⟨by first | rfl | (simp; done) | (simp [*]; done) | (simp <;> grind), by repeat (first | exact Drawn0.refl _ | apply Drawn0.step)⟩

end Go.Proofs.Ythkpnnbjcendcaa.X
end
section
-- By xprint.py, out of the translation's own print. Lean checks it.
namespace Go.Proofs.Ythkpnnbjcendcaa.X
open Go.RowKit Go.Proofs.YthkpnnbjcendcaaW.PrintWords Go.Proofs.YthkpnnbjcendcaaW.PrintLast Go.Proofs.YthkpnnbjcendcaaW.PrintMore
attribute [local go_sem] max2_int min2_int max_two min_two max_three min_three max_four min_four   -- for this text's walks alone
set_option linter.unusedVariables false
set_option linter.unusedSimpArgs false

/-! ### steps_widths: function 97 -/
def steps_widths.f  : Option (Int × Int × Int × Int × Int) := some (0, 7, 14, 32, 64)
set_option maxHeartbeats 8000000 in
set_option maxRecDepth 100000 in
theorem steps_widths.calls  (r1 : Int) (r2 : Int) (r3 : Int) (r4 : Int) (r5 : Int) (w : World) (h : steps_widths.f  = some (r1, r2, r3, r4, r5)) :
    Calls Try.prog 97 #[] w fun e w' => e = .returned (.agg #[.int .i64 r1, .int .i64 r2, .int .i64 r3, .int .i64 r4, .int .i64 r5]) ∧ Below w.heap.size w w' := by
  have hu120 := Try.underlying120
  have HB := Aside0.mk (Below.refl w.heap.size w)
  have H : (some (0, 7, 14, 32, 64)) = some (r1, r2, r3, r4, r5) := h
  clear h
  simp only [Option.some.injEq, Prod.mk.injEq] at H
  obtain ⟨rfl, rfl, rfl, rfl, rfl⟩ := H
  go_enter Try.func97, Try.ntmps97
  go_wp2_with (first | ((with_reducible refine gate_dst (N := 0) rfl ?_); refine box_event ?hg (N := 0) ?hd (cs := #[.int .i64 0, .int .i64 0, .int .i64 0, .int .i64 0, .int .i64 0]) (t := 120) ?hr ?_; (case hd => rfl); (case hg => rfl); (case hr => first | (go_simp; done) | (go_simp; rfl)); intro gb132 hg w1 hbox hb; have n0_ := Aside0.mk (below_step (by repeat (first | (with_reducible first | exact HB.out | apply below_alloc | apply pw_below_drewN | apply below_drew1) | exact HB.out)) hb); have n1_ := Aside0.mk (hbox); have n2_ := Aside0.mk ((by rw [hg]; exact (below_size (by repeat (first | (with_reducible first | exact HB.out | apply below_alloc | apply pw_below_drewN | apply below_drew1) | exact HB.out))) : w.heap.size ≤ gb132)); have n3_ := Aside0.mk ((by rw [hg]; exact (below_size (by repeat (first | (with_reducible first | exact HB.out | apply below_alloc | apply pw_below_drewN | apply below_drew1) | exact HB.out))) : w.heap.size ≤ gb132)); clear HB; have HB := n0_; have BK132 := n1_; have GW132 := n2_; have GE132 := n3_; clear n0_ n1_ n2_ n3_; clear hb hbox hg; have hcz2_0 : w1.cell? ⟨gb132, 0, none⟩ = some (.int .i64 0) := (blk_cell BK132.out 0).trans rfl; have hcz2_1 : w1.cell? ⟨gb132, 1, none⟩ = some (.int .i64 0) := (blk_cell BK132.out 1).trans rfl; have hcz2_2 : w1.cell? ⟨gb132, 2, none⟩ = some (.int .i64 0) := (blk_cell BK132.out 2).trans rfl; have hcz2_3 : w1.cell? ⟨gb132, 3, none⟩ = some (.int .i64 0) := (blk_cell BK132.out 3).trans rfl; have hcz2_4 : w1.cell? ⟨gb132, 4, none⟩ = some (.int .i64 0) := (blk_cell BK132.out 4).trans rfl; have hfz2_0 := blk_frozen BK132.out 0; have hfz2_1 := blk_frozen BK132.out 1; have hfz2_2 := blk_frozen BK132.out 2; have hfz2_3 := blk_frozen BK132.out 3; have hfz2_4 := blk_frozen BK132.out 4))
  refine bodyPost_ret (results_cell_row rfl _ _ gb132 120 #[.int .i64 0, .int .i64 7, .int .i64 14, .int .i64 32, .int .i64 64] (0, 0) _ rfl (by (with_reducible repeat (first | refine blk_drewN ?_ _ | refine blk_drew ?_ | refine blk_alloc ?_ _)); refine blk_put (cs := #[.int .i64 0, .int .i64 7, .int .i64 14, .int .i64 32, .int .i64 0]) ?_ 4 _ rfl; (with_reducible repeat (first | refine blk_drewN ?_ _ | refine blk_drew ?_ | refine blk_alloc ?_ _)); refine blk_put (cs := #[.int .i64 0, .int .i64 7, .int .i64 14, .int .i64 0, .int .i64 0]) ?_ 3 _ rfl; (with_reducible repeat (first | refine blk_drewN ?_ _ | refine blk_drew ?_ | refine blk_alloc ?_ _)); refine blk_put (cs := #[.int .i64 0, .int .i64 7, .int .i64 0, .int .i64 0, .int .i64 0]) ?_ 2 _ rfl; (with_reducible repeat (first | refine blk_drewN ?_ _ | refine blk_drew ?_ | refine blk_alloc ?_ _)); refine blk_put (cs := #[.int .i64 0, .int .i64 0, .int .i64 0, .int .i64 0, .int .i64 0]) ?_ 1 _ rfl; (with_reducible repeat (first | refine blk_drewN ?_ _ | refine blk_drew ?_ | refine blk_alloc ?_ _)); refine blk_put (cs := #[.int .i64 0, .int .i64 0, .int .i64 0, .int .i64 0, .int .i64 0]) ?_ 0 _ rfl; (with_reducible repeat (first | refine blk_drewN ?_ _ | refine blk_drew ?_ | refine blk_alloc ?_ _)); exact BK132.out) Try.underlying120 rfl (by kernel_rfl)) rfl ?_
  exact ⟨by first | rfl | (simp [errW_none, errW_some] <;> rfl) | (simp [*, errW_none, errW_some] <;> rfl), by repeat (first | (with_reducible first | exact HB.out | apply below_alloc | apply pw_below_drewN | apply below_drew1 | refine below_set ?_ GE132.out) | exact HB.out)⟩

end Go.Proofs.Ythkpnnbjcendcaa.X
end
section
-- By xprint.py, out of the translation's own print. Lean checks it.
namespace Go.Proofs.Ythkpnnbjcendcaa.X
open Go.RowKit Go.Proofs.YthkpnnbjcendcaaW.PrintWords Go.Proofs.YthkpnnbjcendcaaW.PrintLast Go.Proofs.YthkpnnbjcendcaaW.PrintMore
attribute [local go_sem] max2_int min2_int max_two min_two max_three min_three max_four min_four   -- for this text's walks alone
set_option linter.unusedVariables false
set_option linter.unusedSimpArgs false

/-! ### octs_Open: function 102 -/
def octs_Open.f (a0 : Int) : Option (Int) := some (Go.bits .xor .i64 (wrap64 (a0 / 2)) (wrap64 (-(wrap64 (Go.bits .and .u64 a0 1)))))
set_option maxHeartbeats 8000000 in
set_option maxRecDepth 100000 in
theorem octs_Open.calls (a0 : Int) (r : Int) (w : World) (h : octs_Open.f a0 = some r) :
    Calls Try.prog 102 #[.int .u64 a0] w fun e w' => e = .returned (.int .i64 r) ∧ Drawn0 w w' := by
  have H : (some (Go.bits .xor .i64 (wrap64 (a0 / 2)) (wrap64 (-(wrap64 (Go.bits .and .u64 a0 1)))))) = some r := h
  clear h
  obtain rfl := Option.some.inj H
  go_enter Try.func102, Try.ntmps102
  go_wp2
  go_ret
  exact ⟨by first | rfl | (simp; done) | (simp [*]; done) | (simp <;> grind), by repeat (first | exact Drawn0.refl _ | apply Drawn0.step)⟩

end Go.Proofs.Ythkpnnbjcendcaa.X
end
end
section
/- Bat, X14, Bcl, Bsh, Bsw, PBi, PBp, Bt, Sp, Bc, Fw, Ppk, Rb, Rby, put together. -/
section
-- By xprint.py, over the goto as a loop; the goto is walked by Go_.wp_scope_ghost_k. Lean checks it.
namespace Go.Proofs.Ythkpnnbjcendcaa.X
open Go.RowKit Go.Proofs.YthkpnnbjcendcaaW.PrintWords Go.Proofs.YthkpnnbjcendcaaW.PrintLast Go.Proofs.YthkpnnbjcendcaaW.PrintMore
attribute [local go_sem] max2_int min2_int max_two min_two max_three min_three max_four min_four   -- for this text's walks alone
set_option linter.unusedVariables false
set_option linter.unusedSimpArgs false

/-! ### bits_At: function 25 -/
mutual
def bits_At.j0 : Nat → List Int → Int → Int → Bool → Option (Int × Int)
  | 0, _, _, _, _ => none
  | k + 1, x0, x1, x2, x14 => if x14 = true then (some (0, 20)) else (if x1 < 0 then (some (0, 2)) else (if x1 > (wrap64 ((wrap64 (8 * (x0.length : Int))) - x2)) then (some (0, 2)) else (bits_At.l0 k x0 0 x1 x2)))
def bits_At.l0 : Nat → List Int → Int → Int → Int → Option (Int × Int)
  | 0, _, _, _, _ => none
  | k + 1, x0, x8, x9, x10 => if x10 = 0 then (some (x8, 0)) else (if 0 ≤ (wrap64 (Int.tdiv x9 8)) then (if (wrap64 (Int.tdiv x9 8)) < (x0.length : Int) then (if 0 ≤ (wrap64 ((wrap64 (8 - (Int.tmod x9 8))) - (mn (wrap64 (8 - (Int.tmod x9 8))) x10))) then (if 0 ≤ (wrap64 (8 - (mn (wrap64 (8 - (Int.tmod x9 8))) x10))) then (if 0 ≤ (mn (wrap64 (8 - (Int.tmod x9 8))) x10) then (bits_At.l0 k x0 (Go.bits .or .u64 (shl .u64 x8 (mn (wrap64 (8 - (Int.tmod x9 8))) x10)) (IntKind.u64.wrap (Go.bits .and .u8 (shr .u8 (rd x0 (wrap64 (Int.tdiv x9 8))) (wrap64 ((wrap64 (8 - (Int.tmod x9 8))) - (mn (wrap64 (8 - (Int.tmod x9 8))) x10)))) (shr .u8 255 (wrap64 (8 - (mn (wrap64 (8 - (Int.tmod x9 8))) x10))))))) (wrap64 (x9 + (mn (wrap64 (8 - (Int.tmod x9 8))) x10))) (wrap64 (x10 - (mn (wrap64 (8 - (Int.tmod x9 8))) x10)))) else (none)) else (none)) else (none)) else (none)) else (none))
end
def bits_At.f (k : Nat) (l0 : List Int) (a1 : Int) (a2 : Int) : Option (Int × Int) := if a2 < 0 then (bits_At.j0 k l0 a1 a2 true) else (bits_At.j0 k l0 a1 a2 (decide (a2 > 64)))
theorem bits_At.mono_l : ∀ k, (∀ y0 y1 y2 y3, LeO (bits_At.j0 k y0 y1 y2 y3) (bits_At.j0 (k + 1) y0 y1 y2 y3)) ∧ (∀ y0 y1 y2 y3, LeO (bits_At.l0 k y0 y1 y2 y3) (bits_At.l0 (k + 1) y0 y1 y2 y3))
  | 0 => ⟨fun _ _ _ _ r h => by simp [bits_At.j0] at h, fun _ _ _ _ r h => by simp [bits_At.l0] at h⟩
  | k + 1 => by
    obtain ⟨ih0, ih1⟩ := bits_At.mono_l k
    refine ⟨?_, ?_⟩
    · intro y0 y1 y2 y3
      unfold bits_At.j0
      repeat' first
      | (with_reducible exact ih0 _ _ _ _)
      | (with_reducible exact ih1 _ _ _ _)
      | (with_reducible exact LeO.refl _)
      | (with_reducible exact LeO.none _)
      | (with_reducible refine LeO.ite ?_ ?_)
      | (with_reducible refine LeO.bind ?_ (fun _ => ?_))
      | exact ih0 _ _ _ _
      | exact ih1 _ _ _ _
      | exact LeO.none _
      | refine LeO.ite ?_ ?_
      | refine LeO.bind ?_ (fun _ => ?_)
    · intro y0 y1 y2 y3
      unfold bits_At.l0
      repeat' first
      | (with_reducible exact ih0 _ _ _ _)
      | (with_reducible exact ih1 _ _ _ _)
      | (with_reducible exact LeO.refl _)
      | (with_reducible exact LeO.none _)
      | (with_reducible refine LeO.ite ?_ ?_)
      | (with_reducible refine LeO.bind ?_ (fun _ => ?_))
      | exact ih0 _ _ _ _
      | exact ih1 _ _ _ _
      | exact LeO.none _
      | refine LeO.ite ?_ ?_
      | refine LeO.bind ?_ (fun _ => ?_)
set_option maxHeartbeats 8000000 in
set_option maxRecDepth 100000 in
theorem bits_At.calls (k : Nat) (A0 : Option Addr) (c0 : Nat) (l0 : List Int) (a1 : Int) (a2 : Int) (r1 : Int) (r2 : Int) (w : World) (hr0 : Kd.C (Kd.int .u8) w A0 l0.length l0) (hc0 : l0.length ≤ c0) (h : bits_At.f k l0 a1 a2 = some (r1, r2)) :
    Calls Try.prog 27 #[.slice A0 l0.length c0, .int .i64 a1, .int .i64 a2] w fun e w' => e = .returned (.tuple #[.int .u64 r1, .int .i64 r2]) ∧ Below w.heap.size w w' := by
  have HR0 := Aside0.mk hr0
  have HC0 := Aside0.mk hc0
  clear hr0 hc0
  have HB := Aside0.mk (Below.refl w.heap.size w)
  have H : (if a2 < 0 then (bits_At.j0 k l0 a1 a2 true) else (bits_At.j0 k l0 a1 a2 (decide (a2 > 64)))) = some (r1, r2) := h
  clear h
  have HC4 := Aside0.mk H
  clear H
  go_enter Try.func27, Try.ntmps27
  go_wp2
  refine Go_.wp_scope_ghost_k 0 (fun kq a_ w_ => ∃ (u3 : Value) (u4 : Value) (u5 : Value) (u6 : Value) (u7 : Value) (u8 : Value) (u9 : Value) (u10 : Value) (u11 : Value) (u12 : Value) (u13 : Value) (u14 : Value) (u15 : Value) (u16 : Value) (u17 : Value) (u18 : Value) (u19 : Value) (u20 : Value) (u21 : Value) (u22 : Value) (u23 : Value) (u24 : Value) (u25 : Value) (u26 : Value) (u27 : Value) (u28 : Value) (u29 : Value) (u30 : Value) (u31 : Value) (u32 : Value) (u33 : Value) (u34 : Value) (u35 : Value) (u36 : Value) (u37 : Value) (u38 : Value) (u39 : Value) (u40 : Value) (u41 : Value) (u42 : Value) (u43 : Value) (u44 : Value) (u45 : Value) (u46 : Value) (u47 : Value) (u48 : Value) (u49 : Value) (u50 : Value) (u51 : Value) (u52 : Value) (u53 : Value) (u54 : Value) (u55 : Value) (u56 : Value) (u57 : Value) (u58 : Value) (u59 : Value) (u60 : Value) (u61 : Value) (u62 : Value) (u63 : Value) (u64 : Value) (u65 : Value) (u66 : Value) (u67 : Value) (u68 : Value), (∃ (x8_2 : Int) (x9_2 : Int) (x10_2 : Int), u8 = .int .u64 x8_2 ∧ u9 = .int .i64 x9_2 ∧ u10 = .int .i64 x10_2 ∧ Aside0 (bits_At.l0 kq l0 x8_2 x9_2 x10_2 = some (r1, r2)) ∧ Aside0 (Below w.heap.size w w_)) ∧ a_ = { tmps := #[.slice A0 l0.length c0, .int .i64 a1, .int .i64 a2, u3, u4, u5, u6, u7, u8, u9, u10, u11, u12, u13, u14, u15, u16, u17, u18, u19, u20, u21, u22, u23, u24, u25, u26, u27, u28, u29, u30, u31, u32, u33, u34, u35, u36, u37, u38, u39, u40, u41, u42, u43, u44, u45, u46, u47, u48, u49, u50, u51, u52, u53, u54, u55, u56, u57, u58, u59, u60, u61, u62, u63, u64, u65, u66, u67, u68], defers := [] }) rfl ?pass ?first
  case pass =>
    clear HC4 HB
    intro gk a_ wr hinv
    obtain ⟨u3, u4, u5, u6, u7, u8, u9, u10, u11, u12, u13, u14, u15, u16, u17, u18, u19, u20, u21, u22, u23, u24, u25, u26, u27, u28, u29, u30, u31, u32, u33, u34, u35, u36, u37, u38, u39, u40, u41, u42, u43, u44, u45, u46, u47, u48, u49, u50, u51, u52, u53, u54, u55, u56, u57, u58, u59, u60, u61, u62, u63, u64, u65, u66, u67, u68, ⟨x8_2, x9_2, x10_2, rfl, rfl, rfl, HA, HB⟩, rfl⟩ := hinv
    intro J K hJ hK
    cases gk with
    | zero => exact absurd HA.out (by simp [bits_At.l0])
    | succ k2 =>
      have H := HA.out
      clear HA
      simp only [bits_At.l0] at H
      by_cases c9 : x10_2 = 0
      · rw [if_pos c9] at H
        have c9b0 : (x10_2 == 0) = true := beq_iff_eq.mpr c9
        have c9b1 : (x10_2 != 0) = false := bne_eq_false_iff_eq.mpr c9
        clear c9
        simp only [Option.some.injEq, Prod.mk.injEq] at H
        obtain ⟨rfl, rfl⟩ := H
        go_wp2
        repeat (go_quiet (fail); try go_wp2)
        (try simp only [Exit.jump]); go_ret2
        exact ⟨by first | rfl | (simp [errW_none, errW_some] <;> rfl) | (simp [*, errW_none, errW_some] <;> rfl), by repeat (first | (with_reducible first | exact HB.out | apply below_alloc | apply pw_below_drewN | apply below_drew1) | exact HB.out)⟩
      · rw [if_neg c9] at H
        have c9b0 : (x10_2 == 0) = false := beq_eq_false_iff_ne.mpr c9
        have c9b1 : (x10_2 != 0) = true := bne_iff_ne.mpr c9
        obtain ⟨ji10, hji10⟩ : ∃ j_ : Int, (mn (wrap64 (8 - (Int.tmod x9_2 8))) x10_2) = j_ := ⟨_, rfl⟩
        replace H : (if 0 ≤ (wrap64 (Int.tdiv x9_2 8)) then (if (wrap64 (Int.tdiv x9_2 8)) < (l0.length : Int) then (if 0 ≤ (wrap64 ((wrap64 (8 - (Int.tmod x9_2 8))) - (ji10))) then (if 0 ≤ (wrap64 (8 - (ji10))) then (if 0 ≤ (ji10) then (bits_At.l0 k2 l0 (Go.bits .or .u64 (shl .u64 x8_2 (ji10)) (IntKind.u64.wrap (Go.bits .and .u8 (shr .u8 (rd l0 (wrap64 (Int.tdiv x9_2 8))) (wrap64 ((wrap64 (8 - (Int.tmod x9_2 8))) - (ji10)))) (shr .u8 255 (wrap64 (8 - (ji10))))))) (wrap64 (x9_2 + (ji10))) (wrap64 (x10_2 - (ji10)))) else (none)) else (none)) else (none)) else (none)) else (none)) = some (r1, r2) := by first | (rw [hji10] at H; exact H) | (simp only [hji10] at H ⊢; exact H)
        have hji10_ : (if x10_2 < (wrap64 (8 - (Int.tmod x9_2 8))) then x10_2 else (wrap64 (8 - (Int.tmod x9_2 8)))) = ji10 := hji10
        obtain ⟨ji11, hji11⟩ : ∃ j_ : Int, (wrap64 (Int.tdiv x9_2 8)) = j_ := ⟨_, rfl⟩
        replace H : (if 0 ≤ (ji11) then (if (ji11) < (l0.length : Int) then (if 0 ≤ (wrap64 ((wrap64 (8 - (Int.tmod x9_2 8))) - (ji10))) then (if 0 ≤ (wrap64 (8 - (ji10))) then (if 0 ≤ (ji10) then (bits_At.l0 k2 l0 (Go.bits .or .u64 (shl .u64 x8_2 (ji10)) (IntKind.u64.wrap (Go.bits .and .u8 (shr .u8 (rd l0 (ji11)) (wrap64 ((wrap64 (8 - (Int.tmod x9_2 8))) - (ji10)))) (shr .u8 255 (wrap64 (8 - (ji10))))))) (wrap64 (x9_2 + (ji10))) (wrap64 (x10_2 - (ji10)))) else (none)) else (none)) else (none)) else (none)) else (none)) = some (r1, r2) := by first | (rw [hji11] at H; exact H) | (simp only [hji11] at H ⊢; exact H)
        have hji11w : (IntKind.i64.wrap (Int.tdiv x9_2 8)) = ji11 := (i64_w _).trans hji11
        by_cases c12 : 0 ≤ (ji11)
        · rw [if_pos c12] at H
          have c12b0 : decide (0 ≤ (ji11)) = true := decide_eq_true c12
          clear c12
          by_cases c13 : (ji11) < (l0.length : Int)
          · rw [if_pos c13] at H
            have c13b0 : decide ((ji11) < (l0.length : Int)) = true := decide_eq_true c13
            clear c13
            obtain ⟨ji14, hji14⟩ : ∃ j_ : Int, (wrap64 ((wrap64 (8 - (Int.tmod x9_2 8))) - (ji10))) = j_ := ⟨_, rfl⟩
            replace H : (if 0 ≤ (ji14) then (if 0 ≤ (wrap64 (8 - (ji10))) then (if 0 ≤ (ji10) then (bits_At.l0 k2 l0 (Go.bits .or .u64 (shl .u64 x8_2 (ji10)) (IntKind.u64.wrap (Go.bits .and .u8 (shr .u8 (rd l0 (ji11)) (ji14)) (shr .u8 255 (wrap64 (8 - (ji10))))))) (wrap64 (x9_2 + (ji10))) (wrap64 (x10_2 - (ji10)))) else (none)) else (none)) else (none)) = some (r1, r2) := by first | (rw [hji14] at H; exact H) | (simp only [hji14] at H ⊢; exact H)
            have hji14w : (IntKind.i64.wrap ((wrap64 (8 - (Int.tmod x9_2 8))) - (ji10))) = ji14 := (i64_w _).trans hji14
            by_cases c15 : 0 ≤ (ji14)
            · rw [if_pos c15] at H
              have c15b0 := eq_true c15
              have c15b1 : decide (0 ≤ (ji14)) = true := decide_eq_true c15
              clear c15
              obtain ⟨ji16, hji16⟩ : ∃ j_ : Int, (shr .u8 (rd l0 (ji11)) (ji14)) = j_ := ⟨_, rfl⟩
              replace H : (if 0 ≤ (wrap64 (8 - (ji10))) then (if 0 ≤ (ji10) then (bits_At.l0 k2 l0 (Go.bits .or .u64 (shl .u64 x8_2 (ji10)) (IntKind.u64.wrap (Go.bits .and .u8 (ji16) (shr .u8 255 (wrap64 (8 - (ji10))))))) (wrap64 (x9_2 + (ji10))) (wrap64 (x10_2 - (ji10)))) else (none)) else (none)) = some (r1, r2) := by first | (rw [hji16] at H; exact H) | (simp only [hji16] at H ⊢; exact H)
              have hji16_ : ((rd l0 (ji11)) / 2 ^ min (ji14).toNat 8) = ji16 := hji16
              have hji16z : (ji14) ≤ 8 → ((rd l0 (ji11)) / 2 ^ (ji14).toNat) = ji16 := shr_small hji16
              obtain ⟨ji17, hji17⟩ : ∃ j_ : Int, (wrap64 (8 - (ji10))) = j_ := ⟨_, rfl⟩
              replace H : (if 0 ≤ (ji17) then (if 0 ≤ (ji10) then (bits_At.l0 k2 l0 (Go.bits .or .u64 (shl .u64 x8_2 (ji10)) (IntKind.u64.wrap (Go.bits .and .u8 (ji16) (shr .u8 255 (ji17))))) (wrap64 (x9_2 + (ji10))) (wrap64 (x10_2 - (ji10)))) else (none)) else (none)) = some (r1, r2) := by first | (rw [hji17] at H; exact H) | (simp only [hji17] at H ⊢; exact H)
              have hji17w : (IntKind.i64.wrap (8 - (ji10))) = ji17 := (i64_w _).trans hji17
              by_cases c18 : 0 ≤ (ji17)
              · rw [if_pos c18] at H
                have c18b0 := eq_true c18
                have c18b1 : decide (0 ≤ (ji17)) = true := decide_eq_true c18
                clear c18
                obtain ⟨ji19, hji19⟩ : ∃ j_ : Int, (shr .u8 255 (ji17)) = j_ := ⟨_, rfl⟩
                replace H : (if 0 ≤ (ji10) then (bits_At.l0 k2 l0 (Go.bits .or .u64 (shl .u64 x8_2 (ji10)) (IntKind.u64.wrap (Go.bits .and .u8 (ji16) (ji19)))) (wrap64 (x9_2 + (ji10))) (wrap64 (x10_2 - (ji10)))) else (none)) = some (r1, r2) := by first | (rw [hji19] at H; exact H) | (simp only [hji19] at H ⊢; exact H)
                have hji19_ : (255 / 2 ^ min (ji17).toNat 8) = ji19 := hji19
                have hji19z : (ji17) ≤ 8 → (255 / 2 ^ (ji17).toNat) = ji19 := shr_small hji19
                by_cases c20 : 0 ≤ (ji10)
                · rw [if_pos c20] at H
                  have c20b0 := eq_true c20
                  have c20b1 : decide (0 ≤ (ji10)) = true := decide_eq_true c20
                  clear c20
                  obtain ⟨ji21, hji21⟩ : ∃ j_ : Int, (shl .u64 x8_2 (ji10)) = j_ := ⟨_, rfl⟩
                  replace H : (bits_At.l0 k2 l0 (Go.bits .or .u64 (ji21) (IntKind.u64.wrap (Go.bits .and .u8 (ji16) (ji19)))) (wrap64 (x9_2 + (ji10))) (wrap64 (x10_2 - (ji10)))) = some (r1, r2) := by first | (rw [hji21] at H; exact H) | (simp only [hji21] at H ⊢; exact H)
                  have hji21_ : (IntKind.u64.wrap (x8_2 * 2 ^ min (ji10).toNat 64)) = ji21 := hji21
                  have hji21z : (ji10) ≤ 64 → (IntKind.u64.wrap (x8_2 * 2 ^ (ji10).toNat)) = ji21 := shl_small hji21
                  have H' := Aside0.mk H
                  clear H
                  have p107 : 0 ≤ ((ji11) : Int) := of_decide_eq_true (by first | (with_reducible assumption) | assumption)
                  have q107 : (ji11) < (l0.length : Int) := of_decide_eq_true (by first | (with_reducible assumption) | assumption)
                  obtain ⟨ad107, e107, hx107_0⟩ := Kd.at_int HR0.out (ji11) p107 q107
                  cases e107
                  replace hx107_0 := (HB.out.cell (World.block_lt_of_cell? w _ hx107_0)).trans hx107_0
                  replace p107 := eq_true p107
                  replace q107 := eq_true q107
                  go_wp2
                  repeat (go_quiet (fail); try go_wp2)
                  go_step3
                  refine ⟨rfl, hK _ _ (Handed.intro k2 ?measure (hJ _ _ _ ?_))⟩
                  rotate_left
                  (repeat apply Exists.intro)
                  refine ⟨?rel, rfl⟩
                  case measure => omega
                  case rel => exact ⟨(Go.bits .or .u64 (ji21) (IntKind.u64.wrap (Go.bits .and .u8 (ji16) (ji19)))), (wrap64 (x9_2 + (ji10))), (wrap64 (x10_2 - (ji10))), (by first | rfl | (simp; done) | (simp only [← hji16, ← hji19, ← hji21] <;> (first | rfl | simp)) | (simp [*]; done) | (simp <;> grind)), (by first | rfl | (simp; done) | (simp only [← hji10] <;> (first | rfl | simp)) | (simp [*]; done) | (simp <;> grind)), (by first | rfl | (simp; done) | (simp only [← hji10] <;> (first | rfl | simp)) | (simp [*]; done) | (simp <;> grind)), (by first | exact H' | (simp only [hji10, hji11, hji14, hji16, hji17, hji19, hji21]; exact H')), ⟨by repeat (first | (with_reducible first | exact HB.out | apply below_alloc | apply pw_below_drewN | apply below_drew1) | exact HB.out)⟩⟩
                · rw [if_neg c20] at H
                  exact absurd H (by simp)
              · rw [if_neg c18] at H
                exact absurd H (by simp)
            · rw [if_neg c15] at H
              exact absurd H (by simp)
          · rw [if_neg c13] at H
            exact absurd H (by simp)
        · rw [if_neg c12] at H
          exact absurd H (by simp)

  case first =>
    intro F hL
    go_upto_region 1 with (fail)
    repeat (go_quiet (fail); go_upto_region 1 with (fail))
    go_cut [14] (fun v14 wc => ∃ (kq : Nat) (x14_3 : Bool), v14 = .bool x14_3 ∧ Aside0 (bits_At.j0 kq l0 a1 a2 x14_3 = some (r1, r2)) ∧ Aside0 (kq ≤ k) ∧ Aside0 (Below w.heap.size w wc))
    case first =>
      have H := HC4.out
      clear HC4
      by_cases c5 : a2 < 0
      · rw [if_pos c5] at H
        have c5b0 : decide (a2 < 0) = true := decide_eq_true c5
        clear c5
        (first | rw [c5b0] | (simp only [i64_w, i32_w]; rw [c5b0]) | skip)
        have H' := Aside0.mk H
        clear H
        go_wp2
        repeat (go_quiet (fail); try go_wp2)
        go_meet
        case rel => exact ⟨_, (true), (by first | rfl | (simp; done) | (simp [*]; done) | (simp <;> grind)), H', ⟨by first | omega | exact Nat.le_refl _⟩, ⟨by repeat (first | (with_reducible first | exact HB.out | apply below_alloc | apply pw_below_drewN | apply below_drew1) | exact HB.out)⟩⟩
      · rw [if_neg c5] at H
        have c5b0 : decide (a2 < 0) = false := decide_eq_false c5
        clear c5
        (first | rw [c5b0] | (simp only [i64_w, i32_w]; rw [c5b0]) | skip)
        have H' := Aside0.mk H
        clear H
        go_wp2
        repeat (go_quiet (fail); try go_wp2)
        go_meet
        case rel => exact ⟨_, (decide (a2 > 64)), (by first | rfl | (simp; done) | (simp [*]; done) | (simp <;> grind)), H', ⟨by first | omega | exact Nat.le_refl _⟩, ⟨by repeat (first | (with_reducible first | exact HB.out | apply below_alloc | apply pw_below_drewN | apply below_drew1) | exact HB.out)⟩⟩
    case rest =>
      clear HC4
      try clear c2
      try clear p2
      try clear c5
      try clear c5b0
      obtain ⟨kq, x14_3, rfl, HA, HJ3, HB⟩ := hcut
      cases kq with
      | zero => exact absurd HA.out (by simp [bits_At.j0])
      | succ kj3 =>
        have H := HA.out
        clear HA
        simp only [bits_At.j0] at H
        by_cases c6 : x14_3 = true
        · subst c6
          have H1 : (some (0, 20)) = some (r1, r2) := by rw [if_pos rfl] at H; exact H
          clear H
          have H := H1
          clear H1
          simp only [Option.some.injEq, Prod.mk.injEq] at H
          obtain ⟨rfl, rfl⟩ := H
          go_wp2
          repeat (go_quiet (fail); try go_wp2)
          (try simp only [Exit.jump]); go_ret2
          exact ⟨by first | rfl | (simp [errW_none, errW_some] <;> rfl) | (simp [*, errW_none, errW_some] <;> rfl), by repeat (first | (with_reducible first | exact HB.out | apply below_alloc | apply pw_below_drewN | apply below_drew1) | exact HB.out)⟩
        · replace c6 := Bool.eq_false_iff.mpr c6
          subst c6
          have H1 : (if a1 < 0 then (some (0, 2)) else (if a1 > (wrap64 ((wrap64 (8 * (l0.length : Int))) - a2)) then (some (0, 2)) else (bits_At.l0 kj3 l0 0 a1 a2))) = some (r1, r2) := by rw [if_neg (show ¬ (false = true) by decide)] at H; exact H
          clear H
          have H := H1
          clear H1
          by_cases c7 : a1 < 0
          · rw [if_pos c7] at H
            have c7b0 : decide (a1 < 0) = true := decide_eq_true c7
            clear c7
            simp only [Option.some.injEq, Prod.mk.injEq] at H
            obtain ⟨rfl, rfl⟩ := H
            go_wp2
            repeat (go_quiet (fail); try go_wp2)
            (try simp only [Exit.jump]); go_ret2
            exact ⟨by first | rfl | (simp [errW_none, errW_some] <;> rfl) | (simp [*, errW_none, errW_some] <;> rfl), by repeat (first | (with_reducible first | exact HB.out | apply below_alloc | apply pw_below_drewN | apply below_drew1) | exact HB.out)⟩
          · rw [if_neg c7] at H
            have c7b0 : decide (a1 < 0) = false := decide_eq_false c7
            clear c7
            by_cases c8 : a1 > (wrap64 ((wrap64 (8 * (l0.length : Int))) - a2))
            · rw [if_pos c8] at H
              have c8b0 : decide ((wrap64 ((wrap64 (8 * (l0.length : Int))) - a2)) < a1) = true := decide_eq_true c8
              clear c8
              simp only [Option.some.injEq, Prod.mk.injEq] at H
              obtain ⟨rfl, rfl⟩ := H
              go_wp2
              repeat (go_quiet (fail); try go_wp2)
              (try simp only [Exit.jump]); go_ret2
              exact ⟨by first | rfl | (simp [errW_none, errW_some] <;> rfl) | (simp [*, errW_none, errW_some] <;> rfl), by repeat (first | (with_reducible first | exact HB.out | apply below_alloc | apply pw_below_drewN | apply below_drew1) | exact HB.out)⟩
            · rw [if_neg c8] at H
              have c8b0 : decide ((wrap64 ((wrap64 (8 * (l0.length : Int))) - a2)) < a1) = false := decide_eq_false c8
              clear c8
              have H' := Aside0.mk H
              clear H
              go_wp2
              repeat (go_quiet (fail); try go_wp2)
              go_step3
              go_step
              go_step
              refine hL kj3 _ _ ?_
              (repeat apply Exists.intro)
              refine ⟨?_, rfl⟩
              exact ⟨(0), (a1), (a2), rfl, rfl, rfl, H', ⟨by repeat (first | (with_reducible first | exact HB.out | apply below_alloc | apply pw_below_drewN | apply below_drew1) | exact HB.out)⟩⟩
end Go.Proofs.Ythkpnnbjcendcaa.X
end
section
-- By xprint.py, out of the translation's own print. Lean checks it.
namespace Go.Proofs.Ythkpnnbjcendcaa.X
open Go.RowKit Go.Proofs.YthkpnnbjcendcaaW.PrintWords Go.Proofs.YthkpnnbjcendcaaW.PrintLast Go.Proofs.YthkpnnbjcendcaaW.PrintMore
attribute [local go_sem] max2_int min2_int max_two min_two max_three min_three max_four min_four   -- for this text's walks alone
set_option linter.unusedVariables false
set_option linter.unusedSimpArgs false

/-! ### bits_Clear: function 28 -/
def bits_Clear.l0 : Nat → List Int → Int → Option (Bool)
  | 0, _, _ => none
  | k + 1, x0, x5 => if x5 < (wrap64 (8 * (x0.length : Int))) then ((bits_At.f k x0 x5 (mn (wrap64 (8 - (Int.tmod x5 8))) (wrap64 ((wrap64 (8 * (x0.length : Int))) - x5)))).bind fun bt121 => (if bt121.1 = 0 then (bits_Clear.l0 k x0 (wrap64 (x5 + (mn (wrap64 (8 - (Int.tmod x5 8))) (wrap64 ((wrap64 (8 * (x0.length : Int))) - x5)))))) else (some false))) else (some true)
def bits_Clear.f (k : Nat) (l0 : List Int) (a1 : Int) : Option (Bool) := if a1 < 0 then (some false) else (bits_Clear.l0 k l0 a1)
set_option maxHeartbeats 8000000 in
set_option maxRecDepth 100000 in
theorem bits_Clear.calls (k : Nat) (A0 : Option Addr) (c0 : Nat) (l0 : List Int) (a1 : Int) (r : Bool) (w : World) (hr0 : Kd.C (Kd.int .u8) w A0 l0.length l0) (hc0 : l0.length ≤ c0) (h : bits_Clear.f k l0 a1 = some r) :
    Calls Try.prog 28 #[.slice A0 l0.length c0, .int .i64 a1] w fun e w' => e = .returned (.bool r) ∧ Below w.heap.size w w' := by
  have HR0 := Aside0.mk hr0
  have HC0 := Aside0.mk hc0
  clear hr0 hc0
  have HB := Aside0.mk (Below.refl w.heap.size w)
  have H : (if a1 < 0 then (some false) else (bits_Clear.l0 k l0 a1)) = some r := h
  clear h
  by_cases c3 : a1 < 0
  · rw [if_pos c3] at H
    have c3b0 : decide (a1 < 0) = true := decide_eq_true c3
    clear c3
    obtain rfl := Option.some.inj H
    go_enter Try.func28, Try.ntmps28
    go_wp2
    go_ret
    exact ⟨by first | rfl | (simp [errW_none, errW_some] <;> rfl) | (simp [*, errW_none, errW_some] <;> rfl), by repeat (first | (with_reducible first | exact HB.out | apply below_alloc | apply pw_below_drewN | apply below_drew1) | exact HB.out)⟩
  · rw [if_neg c3] at H
    have c3b0 : decide (a1 < 0) = false := decide_eq_false c3
    clear c3
    have H' := Aside0.mk H
    clear H
    go_enter Try.func28, Try.ntmps28
    go_wp2
    go_loopg [5] k (fun kq v5 w' => ∃ (x5_1 : Int), v5 = .int .i64 x5_1 ∧ Aside0 (bits_Clear.l0 kq l0 x5_1 = some r) ∧ Aside0 (kq ≤ k) ∧ Aside0 (Below w.heap.size w w'))
    case atStart => exact ⟨(a1), (by first | rfl | (simp; done) | (simp [*]; done) | (simp <;> grind)), H', ⟨Nat.le_refl _⟩, ⟨by repeat (first | (with_reducible first | exact HB.out | apply below_alloc | apply pw_below_drewN | apply below_drew1) | exact HB.out)⟩⟩
    case round =>
      clear H'
      try clear c2
      try clear p2
      try clear c3
      try clear c3b0
      obtain ⟨x5_1, rfl, HA, HK1, HB⟩ := hrel
      cases gk with
      | zero => exact absurd HA.out (by simp [bits_Clear.l0])
      | succ k1 =>
        have H := HA.out
        clear HA
        simp only [bits_Clear.l0] at H
        by_cases c4 : x5_1 < (wrap64 (8 * (l0.length : Int)))
        · rw [if_pos c4] at H
          have c4b0 : decide (x5_1 < (wrap64 (8 * (l0.length : Int)))) = true := decide_eq_true c4
          clear c4
          obtain ⟨ji5, hji5⟩ : ∃ j_ : Int, (mn (wrap64 (8 - (Int.tmod x5_1 8))) (wrap64 ((wrap64 (8 * (l0.length : Int))) - x5_1))) = j_ := ⟨_, rfl⟩
          replace H : ((bits_At.f k1 l0 x5_1 (ji5)).bind fun bt121 => (if bt121.1 = 0 then (bits_Clear.l0 k1 l0 (wrap64 (x5_1 + (ji5)))) else (some false))) = some r := by first | (rw [hji5] at H; exact H) | (simp only [hji5] at H ⊢; exact H)
          have hji5_ : (if (wrap64 ((wrap64 (8 * (l0.length : Int))) - x5_1)) < (wrap64 (8 - (Int.tmod x5_1 8))) then (wrap64 ((wrap64 (8 * (l0.length : Int))) - x5_1)) else (wrap64 (8 - (Int.tmod x5_1 8)))) = ji5 := hji5
          replace H := Option.bind_eq_some_iff.mp H
          obtain ⟨⟨t121, t122⟩, A60, H⟩ := H
          replace H : (if t121 = 0 then (bits_Clear.l0 k1 l0 (wrap64 (x5_1 + (ji5)))) else (some false)) = some r := H
          have A6 := Aside0.mk A60
          clear A60
          by_cases c7 : t121 = 0
          · rw [if_pos c7] at H
            have c7b0 : (t121 == 0) = true := beq_iff_eq.mpr c7
            have c7b1 : (t121 != 0) = false := bne_eq_false_iff_eq.mpr c7
            clear c7
            have H' := Aside0.mk H
            clear H
            go_wp2_with (first | ((with_reducible refine gate_callee (f := 27) rfl ?_); refine goesL_ (some 30) rfl rfl Try.func27 (by kernel_rfl) rfl #[.slice A0 l0.length c0, .int .i64 x5_1, .int .i64 ji5] rfl (by (try simp only [List.map_toArray, List.map_cons, List.map_nil]); first | done | (simp only [hji5]; rfl) | rfl | (simp only [List.length_drop, List.length_take]; rfl)) ?_; (with_reducible refine (bits_At.calls k1 _ _ l0 x5_1 ji5 t121 t122 _ ?side1 ?side2 A6.out).mono ?_); (case side1 => repeat (first | exact (Kd.C_below HR0.out HB.out) | (with_reducible refine Kd.C_alloc ?_ _) | (with_reducible refine Kd.C_drewN ?_ _) | (with_reducible refine Kd.C_drew ?_))); (case side2 => exact HC0.out); rintro e w8 ⟨rfl, hb⟩; refine ⟨_, rfl, ?_⟩; have n0_ := Aside0.mk (below_step (by repeat (first | (with_reducible first | exact HB.out | apply below_alloc | apply pw_below_drewN | apply below_drew1) | exact HB.out)) hb); clear HB; have HB := n0_; clear n0_; (try clear hb); (try clear hb2); (try clear hk); (try clear hi)))
            go_roundg k1
            case measure => have := HK1.out; omega
            case rel => exact ⟨(wrap64 (x5_1 + (ji5))), (by first | rfl | (simp; done) | (simp only [← hji5] <;> (first | rfl | simp)) | (simp [*]; done) | (simp <;> grind)), (by first | exact H' | (simp only [hji5]; exact H')), ⟨by have := HK1.out; omega⟩, ⟨by repeat (first | (with_reducible first | exact HB.out | apply below_alloc | apply pw_below_drewN | apply below_drew1) | exact HB.out)⟩⟩
          · rw [if_neg c7] at H
            have c7b0 : (t121 == 0) = false := beq_eq_false_iff_ne.mpr c7
            have c7b1 : (t121 != 0) = true := bne_iff_ne.mpr c7
            obtain rfl := Option.some.inj H
            go_wp2_with (first | ((with_reducible refine gate_callee (f := 27) rfl ?_); refine goesL_ (some 30) rfl rfl Try.func27 (by kernel_rfl) rfl #[.slice A0 l0.length c0, .int .i64 x5_1, .int .i64 ji5] rfl (by (try simp only [List.map_toArray, List.map_cons, List.map_nil]); first | done | (simp only [hji5]; rfl) | rfl | (simp only [List.length_drop, List.length_take]; rfl)) ?_; (with_reducible refine (bits_At.calls k1 _ _ l0 x5_1 ji5 t121 t122 _ ?side1 ?side2 A6.out).mono ?_); (case side1 => repeat (first | exact (Kd.C_below HR0.out HB.out) | (with_reducible refine Kd.C_alloc ?_ _) | (with_reducible refine Kd.C_drewN ?_ _) | (with_reducible refine Kd.C_drew ?_))); (case side2 => exact HC0.out); rintro e w9 ⟨rfl, hb⟩; refine ⟨_, rfl, ?_⟩; have n0_ := Aside0.mk (below_step (by repeat (first | (with_reducible first | exact HB.out | apply below_alloc | apply pw_below_drewN | apply below_drew1) | exact HB.out)) hb); clear HB; have HB := n0_; clear n0_; (try clear hb); (try clear hb2); (try clear hk); (try clear hi)))
            go_ret
            exact ⟨by first | rfl | (simp [errW_none, errW_some] <;> rfl) | (simp only [← hji5]; first | rfl | (simp [errW_none, errW_some] <;> rfl)) | (simp [*, errW_none, errW_some] <;> rfl), by repeat (first | (with_reducible first | exact HB.out | apply below_alloc | apply pw_below_drewN | apply below_drew1) | exact HB.out)⟩
        · rw [if_neg c4] at H
          have c4b0 : decide (x5_1 < (wrap64 (8 * (l0.length : Int)))) = false := decide_eq_false c4
          clear c4
          obtain rfl := Option.some.inj H
          go_wp2
          go_ret
          exact ⟨by first | rfl | (simp [errW_none, errW_some] <;> rfl) | (simp [*, errW_none, errW_some] <;> rfl), by repeat (first | (with_reducible first | exact HB.out | apply below_alloc | apply pw_below_drewN | apply below_drew1) | exact HB.out)⟩

end Go.Proofs.Ythkpnnbjcendcaa.X
end
section
-- By xprint.py, out of the translation's own print (kept under a name of its own). Lean checks it.
namespace Go.Proofs.Ythkpnnbjcendcaa.X
open Go.RowKit Go.Proofs.YthkpnnbjcendcaaW.PrintWords Go.Proofs.YthkpnnbjcendcaaW.PrintLast Go.Proofs.YthkpnnbjcendcaaW.PrintMore
attribute [local go_sem] max2_int min2_int max_two min_two max_three min_three max_four min_four   -- for this text's walks alone
set_option linter.unusedVariables false
set_option linter.unusedSimpArgs false

/-! ### slices_Clone_byte_byte: function 45 -/
def slices_Clone_byte_byte.f (l0 : List Int) : Option (List Int) := (some (([] : List Int) : List Int)).bind fun y101 => (if y101.length + l0.length < 140737488355328 then (some (y101 ++ l0)) else (none))
set_option maxHeartbeats 8000000 in
set_option maxRecDepth 100000 in
theorem slices_Clone_byte_byte.callsS (A0 : Option Addr) (c0 : Nat) (l0 : List Int) (r : List Int) (w : World) (hr0 : Kd.C (Kd.int .u8) w A0 l0.length l0) (hc0 : l0.length ≤ c0) (hnn : A0.isNone = false) (h : slices_Clone_byte_byte.f l0 = some r) :
    Calls Try.prog 62 #[.slice A0 l0.length c0] w fun e w' => ∃ v0_ : Value, e = .returned (v0_) ∧ Kd.R (Kd.int .u8) 5 w' w.heap.size (fun _ => True) v0_ r ∧ Below w.heap.size w w' := by
  have hnil := fun (w : World) (a : Option Addr) (l c : Nat) => Go.run_eql_slice_nil w 24 5 a l c Try.underlying24
  have HR0 := Aside0.mk hr0
  have HC0 := Aside0.mk hc0
  clear hr0 hc0
  have HB := Aside0.mk (Below.refl w.heap.size w)
  have H : ((some (([] : List Int) : List Int)).bind fun y101 => (if y101.length + l0.length < 140737488355328 then (some (y101 ++ l0)) else (none))) = some r := h
  clear h
  obtain ⟨y101, hy101⟩ : ∃ y_ : List Int, y_ = (([] : List Int)) := ⟨_, rfl⟩
  replace H : (if y101.length + l0.length < 140737488355328 then (some (y101 ++ l0)) else (none)) = some r := by first | (rw [hy101]; with_reducible exact H) | (have H2_ := (Option.bind_some _ _).symm.trans H; rw [hy101]; with_reducible exact H2_) | (have H2_ := (Option.bind_some _ _).symm.trans H; with_reducible exact H2_) | with_reducible exact H | (rw [hy101]; exact H) | exact H
  have Ny101 := Aside0.mk hy101
  clear hy101
  by_cases c2 : y101.length + l0.length < 140737488355328
  · rw [if_pos c2] at H
    have LMc2 := Aside0.mk c2
    clear c2
    obtain ⟨y104, hy104⟩ : ∃ y_ : List Int, y_ = (y101 ++ l0) := ⟨_, rfl⟩
    replace H : (some y104) = some r := by first | (rw [hy104]; with_reducible exact H) | (have H2_ := (Option.bind_some _ _).symm.trans H; rw [hy104]; with_reducible exact H2_) | (have H2_ := (Option.bind_some _ _).symm.trans H; with_reducible exact H2_) | with_reducible exact H | (rw [hy104]; exact H) | exact H
    have Ny104 := Aside0.mk hy104
    clear hy104
    obtain rfl := Option.some.inj H
    go_enter Try.func62, Try.ntmps62
    go_wp2_with (first | ((with_reducible refine gate_dst (N := 5) rfl ?_); refine Kd.R_lit (Kd.int .u8) _ 5 ?hg (N := 5) ?hd (xs := ([] : List Int)) (inner := []) (ok := fun _ => True) (okp := fun _ => True) ?hr ?hp (fun _ hk => hk) trivial (Below.refl _ _) (Nat.le_refl _) (by simp) ?_; (case hd => rfl); (case hg => rfl); (case hr => first | (go_simp; done) | (go_simp; rfl)); (case hp => exact (Reps.none _ _)); intro v102 w3 ho4 hb hg_ hnew_; clear hg_ hnew_; (first | rw [← Ny101.out] at ho4 | (simp only [Int.reduceToNat] at ho4; rw [← Ny101.out] at ho4)); have n0_ := Aside0.mk (Kd.R_lower ho4 (below_size (by repeat (first | (with_reducible first | exact HB.out | apply below_alloc | apply pw_below_drewN | apply below_drew1) | exact HB.out)))); have n1_ := Aside0.mk (below_step (by repeat (first | (with_reducible first | exact HB.out | apply below_alloc | apply pw_below_drewN | apply below_drew1) | exact HB.out)) hb); clear HB; have HO103 := n0_; have HB := n1_; clear n0_ n1_; clear hb ho4) | ((with_reducible refine gate_builtin (b := .append) (xs := #[.tmp 5, .tmp 6]) rfl ?_); at_builtin; refine Kd.R_append_rows (Kd.int .u8) (w0 := w) w.heap.size rfl (.tmp 5) (.tmp 6) 24 5 (.int .u8 0) 1 rfl Try.underlying24 info5 rfl (by decide) (by omega) v102 y101 l0 _ _ _ (fun _ => True) (fun _ => False) rfl rfl ?aO ?aR (fun _ _ h => h) (fun _ h => h.elim) ?aF ?aB ?aS ?aL ?_; (case aR => repeat (first | exact (Kd.C_below HR0.out HB.out) | (with_reducible refine Kd.C_alloc ?_ _) | (with_reducible refine Kd.C_drewN ?_ _) | (with_reducible refine Kd.C_drew ?_))); (case aB => exact (by repeat (first | (with_reducible first | exact HB.out | apply below_alloc | apply pw_below_drewN | apply below_drew1) | exact HB.out))); (case aF => exact (fun _ _ => trivial)); (case aO => exact (by (with_reducible repeat (first | apply Kd.R_alloc | apply Kd.R_drewN | apply Kd.R_drew)); exact HO103.out)); (case aS => exact (below_size (by repeat (first | (with_reducible first | exact HB.out | apply below_alloc | apply pw_below_drewN | apply below_drew1) | exact HB.out)))); (case aL => have := LMc2.out; omega); intro v105 w5 ho hb hg hat; rw [← Ny104.out] at ho; have n0_ := Aside0.mk (hb); have n1_ := Aside0.mk (ho); clear HB; clear HO103; have HB := n0_; have HO106 := n1_; clear n0_ n1_; clear ho hb hg hat))
    go_ret
    exact ⟨_, by first | rfl | (simp [errW_none, errW_some] <;> rfl) | (simp [*, errW_none, errW_some] <;> rfl), by (with_reducible repeat (first | apply Kd.R_alloc | apply Kd.R_drewN | apply Kd.R_drew)); exact HO106.out, by repeat (first | (with_reducible first | exact HB.out | apply below_alloc | apply pw_below_drewN | apply below_drew1) | exact HB.out)⟩
  · rw [if_neg c2] at H
    exact absurd H (by simp)
theorem slices_Clone_byte_byte.calls (A0 : Option Addr) (c0 : Nat) (l0 : List Int) (r : List Int) (w : World) (hr0 : Kd.C (Kd.int .u8) w A0 l0.length l0) (hc0 : l0.length ≤ c0) (h : slices_Clone_byte_byte.f l0 = some r) :
    Calls Try.prog 62 #[.slice A0 l0.length c0] w fun e w' => ∃ v0_ : Value, e = .returned (v0_) ∧ Kd.R (Kd.int .u8) 5 w' w.heap.size (fun _ => True) v0_ r ∧ Below w.heap.size w w' := by
  rcases A0 with _ | a
  · have hl : l0 = [] := by
      cases l0 with
      | nil => rfl
      | cons z zs => obtain ⟨_, _, hz⟩ := hr0; obtain ⟨ad, had, _⟩ := hz (by simp); cases had
    subst hl
    obtain rfl : r = [] := by simpa [slices_Clone_byte_byte.f] using h.symm
    have hnil := fun (w : World) (a : Option Addr) (l c : Nat) => Go.run_eql_slice_nil w 24 5 a l c Try.underlying24
    go_enter Try.func62, Try.ntmps62
    go_wp2
    go_ret
    exact ⟨_, rfl, Kd.R_nil _ _ _ _ _, Below.refl _ _⟩
  · exact slices_Clone_byte_byte.callsS (some a) c0 l0 r w hr0 hc0 rfl h

end Go.Proofs.Ythkpnnbjcendcaa.X
end
section
/- (*bits.Bits).Len and .Bytes, with bits and with nil; .Put with nil; and the head of the laws of layer 2. -/
namespace Go.Proofs.Ythkpnnbjcendcaa.X
open Go.RowKit Go.Proofs.YthkpnnbjcendcaaW.PrintWords Go.Proofs.YthkpnnbjcendcaaW.PrintLast Go.Proofs.YthkpnnbjcendcaaW.PrintMore
attribute [local go_sem] max2_int min2_int max_two min_two max_three min_three max_four min_four
set_option linter.unusedVariables false
set_option linter.unusedSimpArgs false

theorem bits_Bits_Bytes.calls (g : Nat) (base : Nat) (u : Value) (l0 : List Int) (many : Int) (r : List Int) (w : World) (ok : Nat → Prop) (hb0 : w.heap[g]? = some (.cells #[u, .int .i64 many] 26 (0, 0))) (ho : Kd.R (Kd.int .u8) 5 w base ok u l0) (h : slices_Clone_byte_byte.f l0 = some r) :
    Calls Try.prog 25 #[.pointer (some ⟨g, 0, none⟩)] w fun e w' => ∃ v_ : Value, e = .returned v_ ∧ Kd.R (Kd.int .u8) 5 w' w.heap.size (fun _ => True) v_ r ∧ Below w.heap.size w w' := by
  have HB := Aside0.mk (Below.refl w.heap.size w)
  obtain ⟨A0, c0, rfl⟩ := Kd.R_slice ho
  have HC := Aside0.mk (Kd.R_reads' ho).2.2
  have HL := Aside0.mk (Kd.R_reads' ho).2.1
  have hc0 : World.cell? w ⟨g, 0, none⟩ = some (Value.slice A0 l0.length c0) := (blk_cell hb0 0).trans rfl
  have Hh := Aside0.mk h
  clear hb0 ho h
  go_enter Try.func25, Try.ntmps25
  go_wp2_with (first | ((with_reducible refine gate_callee (f := 62) rfl ?_); refine goesL_ (some 9) rfl rfl Try.func62 (by kernel_rfl) rfl #[.slice A0 l0.length c0] rfl (by (try simp only [List.map_toArray, List.map_cons, List.map_nil]); first | done | rfl) ?_; (with_reducible refine (slices_Clone_byte_byte.calls _ _ l0 r _ ?side1 HL.out Hh.out).mono ?_); (case side1 => repeat (first | exact HC.out | (with_reducible refine Kd.C_alloc ?_ _) | (with_reducible refine Kd.C_drewN ?_ _) | (with_reducible refine Kd.C_drew ?_))); rintro e w3 ⟨v1, rfl, ho, hb⟩; refine ⟨_, rfl, ?_⟩; have n0_ := Aside0.mk (Kd.R_lower ho (below_size (by repeat (first | (with_reducible first | exact HB.out | apply below_alloc | apply pw_below_drewN | apply below_drew1) | exact HB.out)))); have n1_ := Aside0.mk (below_step (by repeat (first | (with_reducible first | exact HB.out | apply below_alloc | apply pw_below_drewN | apply below_drew1) | exact HB.out)) hb); clear HB; have HO := n0_; have HB := n1_; clear n0_ n1_ ho hb))
  go_ret
  exact ⟨_, rfl, by (with_reducible repeat (first | apply Kd.R_alloc | apply Kd.R_drewN | apply Kd.R_drew)); exact HO.out, by repeat (first | (with_reducible first | exact HB.out | apply below_alloc | apply pw_below_drewN | apply below_drew1) | exact HB.out)⟩
end Go.Proofs.Ythkpnnbjcendcaa.X
end
section
/- Bits of bytes: what bits.At, bits.Clear and their references tell. -/
namespace Go.Proofs.Ythkpnnbjcendcaa.Pure
open Go.RowKit Go.Proofs.Ythkpnnbjcendcaa.X Go.Proofs.Ythkpnnbjcendcaa.Pl Go.Proofs.YthkpnnbjcendcaaW.PrintWords Go.Proofs.YthkpnnbjcendcaaW.PrintLast Go.Proofs.YthkpnnbjcendcaaW.PrintMore

/-- The byte of a place, the bit of a place, so many bits from a place on. -/
def by_ (b : List Int) (p : Nat) : Nat := (b.getD (p / 8) 0).toNat
def bt (b : List Int) (p : Nat) : Nat := by_ b p / 2 ^ (7 - p % 8) % 2
def val (b : List Int) (p : Nat) : Nat → Nat
  | 0 => 0
  | w + 1 => 2 * val b p w + bt b (p + w)
def Byt (b : List Int) : Prop := ∀ x ∈ b, 0 ≤ x ∧ x ≤ 255
theorem by_rd {b : List Int} (h : Byt b) (p : Nat) (hp : p < 8 * b.length) : rd b ((p / 8 : Nat) : Int) = (by_ b p : Int) ∧ by_ b p < 256 := by
  have hlt : p / 8 < b.length := by omega
  have hm := h _ (List.getElem_mem hlt)
  have e : b.getD (p / 8) 0 = b[p / 8] := getD_lt b _ _ hlt
  unfold by_
  constructor
  · show b.getD (((p / 8 : Nat) : Int)).toNat 0 = _
    rw [Int.toNat_natCast, e]; omega
  · rw [e]; omega
theorem bt_lt (b : List Int) (p : Nat) : bt b p < 2 := Nat.mod_lt _ (by decide)
theorem val_lt (b : List Int) (p : Nat) : ∀ w, val b p w < 2 ^ w
  | 0 => by simp [val]
  | w + 1 => by
    have := val_lt b p w
    have := bt_lt b (p + w)
    rw [val, Nat.pow_succ]; omega
theorem val_add (b : List Int) (p w : Nat) : ∀ m, val b p (w + m) = val b p w * 2 ^ m + val b (p + w) m
  | 0 => by simp [val]
  | m + 1 => by
    rw [← Nat.add_assoc, val, val_add b p w m, val, Nat.pow_succ, ← Nat.add_assoc p w m]
    rw [Nat.mul_add, Nat.mul_comm (2 ^ m) 2, ← Nat.mul_assoc, ← Nat.mul_assoc, Nat.mul_comm 2 (val b p w)]
    omega
theorem val_zero (b : List Int) (p : Nat) : ∀ w, val b p w = 0 ↔ ∀ j, j < w → bt b (p + j) = 0
  | 0 => by simp [val]
  | w + 1 => by
    rw [val]
    have ih := val_zero b p w
    constructor
    · intro h j hj
      rcases (by omega : j < w ∨ j = w) with h' | rfl
      · exact ih.1 (by omega) j h'
      · omega
    · intro h
      have h1 := ih.2 (fun j hj => h j (by omega))
      have h2 := h w (by omega)
      omega
/-- Within one byte. -/
theorem val_byte (b : List Int) (p : Nat) : ∀ s, p % 8 + s ≤ 8 → val b p s = by_ b p / 2 ^ (8 - p % 8 - s) % 2 ^ s
  | 0, _ => by simp [val, Nat.mod_one]
  | s + 1, h => by
    have e1 : by_ b (p + s) = by_ b p := by unfold by_; rw [show (p + s) / 8 = p / 8 by omega]
    have e2 : (p + s) % 8 = p % 8 + s := by omega
    rw [val, val_byte b p s (by omega), bt, e1, e2]
    have e3 : 8 - p % 8 - s = (7 - (p % 8 + s)) + 1 := by omega
    have e4 : 8 - p % 8 - (s + 1) = 7 - (p % 8 + s) := by omega
    rw [e3, e4, Nat.pow_succ 2 (7 - (p % 8 + s)), ← Nat.div_div_eq_div_mul, Nat.pow_succ 2 s, Nat.mul_comm (2 ^ s) 2, Nat.mod_mul]
    omega

/-! ### bits.At -/
def atR (b : List Int) (p w : Int) : Int × Int :=
  if w < 0 ∨ w > 64 then (0, 20) else if p < 0 ∨ p > 8 * (b.length : Int) - w then (0, 2) else ((val b p.toNat w.toNat : Int), 0)
theorem mask8 {s : Nat} (h : s ≤ 8) : (255 : Int) / 2 ^ (8 - s) = 2 ^ s - 1 := by
  rcases (by omega : s = 0 ∨ s = 1 ∨ s = 2 ∨ s = 3 ∨ s = 4 ∨ s = 5 ∨ s = 6 ∨ s = 7 ∨ s = 8) with rfl | rfl | rfl | rfl | rfl | rfl | rfl | rfl | rfl <;> decide
theorem w_u64 {n : Int} (h0 : 0 ≤ n) (h1 : n < 2 ^ 64) : IntKind.u64.wrap n = n := by
  simp only [IntKind.wrap, IntKind.signed, IntKind.bits]
  simp only [Bool.false_and, Bool.false_eq_true, if_false]
  exact Int.emod_eq_of_lt h0 h1
theorem part_is {b : List Int} (hb : Byt b) {p s : Nat} (hp : p < 8 * b.length) (hs : p % 8 + s ≤ 8) :
    Go.bits .and .u8 (shr .u8 (rd b ((p / 8 : Nat) : Int)) ((8 - p % 8 - s : Nat) : Int)) (shr .u8 255 ((8 - s : Nat) : Int)) = (val b p s : Int) := by
  obtain ⟨hr, hlt⟩ := by_rd hb p hp
  have e1 : min ((8 - p % 8 - s : Nat) : Int).toNat IntKind.u8.bits = 8 - p % 8 - s := by
    rw [Int.toNat_natCast]; exact Nat.min_eq_left (by show _ ≤ 8; omega)
  have e2 : min ((8 - s : Nat) : Int).toNat IntKind.u8.bits = 8 - s := by
    rw [Int.toNat_natCast]; exact Nat.min_eq_left (by show _ ≤ 8; omega)
  unfold shr
  rw [e1, e2, hr, mask8 (by omega)]
  have e3 : ((by_ b p : Nat) : Int) / 2 ^ (8 - p % 8 - s) = ((by_ b p / 2 ^ (8 - p % 8 - s) : Nat) : Int) := by
    rw [Int.natCast_ediv]; simp
  have h4 : by_ b p / 2 ^ (8 - p % 8 - s) < 2 ^ 8 := Nat.lt_of_le_of_lt (Nat.div_le_self _ _) hlt
  rw [e3, bits_mask .u8 8 (by decide) wraps_u8 s (by omega) _ (Int.natCast_nonneg _) (by exact_mod_cast h4), val_byte b p s hs]
  simp
theorem or_is {n s v : Nat} (hn : n * 2 ^ s < 2 ^ 64) (hv : v < 2 ^ s) (hs : s ≤ 64) : Go.bits .or .u64 (shl .u64 (n : Int) ((s : Nat) : Int)) (v : Int) = ((n * 2 ^ s + v : Nat) : Int) := by
  have e1 : min ((s : Nat) : Int).toNat IntKind.u64.bits = s := by
    rw [Int.toNat_natCast]; exact Nat.min_eq_left (by show _ ≤ 64; omega)
  have hc : (n : Int) * 2 ^ s = ((n * 2 ^ s : Nat) : Int) := by simp
  have hv64 : v < 2 ^ 64 := Nat.lt_of_lt_of_le hv (Nat.pow_le_pow_right (by decide) hs)
  unfold shl
  rw [e1, hc, w_u64 (Int.natCast_nonneg _) (by exact_mod_cast hn)]
  rw [bits_join .u64 64 (by decide) (fun n h0 h1 => w_u64 h0 h1) s _ _ (Int.natCast_nonneg _) (by rw [← hc]; exact Int.mul_emod_left _ _) (by exact_mod_cast hn) (Int.natCast_nonneg _) (by exact_mod_cast hv) (by exact_mod_cast hv64)]
  simp

theorem at_loop {b : List Int} (hb : Byt b) (hl : b.length < 1000000) (left : Nat) : ∀ (n p done : Nat), n < 2 ^ done → done + left ≤ 64 → p + left ≤ 8 * b.length →
    Ev (fun k => bits_At.l0 k b (n : Int) (p : Int) (left : Int)) (((n * 2 ^ left + val b p left : Nat) : Int), 0) := by
  induction left using Nat.strongRecOn with
  | _ left ih =>
    intro n p done hn hd hp
    by_cases h0 : left = 0
    · subst h0
      exact ev_stop fun k => by rw [bits_At.l0, if_pos (by simp)]; simp [val]
    · have hmod : Int.tmod (p : Int) 8 = ((p % 8 : Nat) : Int) := by rw [tmod_pos (by omega)]; omega
      have hdiv : Int.tdiv (p : Int) 8 = ((p / 8 : Nat) : Int) := by rw [tdiv_pos (by omega)]; omega
      obtain ⟨s, hs⟩ : ∃ s : Nat, s = min (8 - p % 8) left := ⟨_, rfl⟩
      have hmn : mn (wrap64 (8 - Int.tmod (p : Int) 8)) (left : Int) = (s : Int) := by
        rw [hmod, w64 (by omega) (by omega)]
        have := @mn_le (8 - ((p % 8 : Nat) : Int)) (left : Int)
        omega
      have hs1 : 1 ≤ s ∧ s ≤ left ∧ p % 8 + s ≤ 8 := by omega
      have hfree : wrap64 (8 - Int.tmod (p : Int) 8) = ((8 - p % 8 : Nat) : Int) := by rw [hmod, w64 (by omega) (by omega)]; omega
      refine ev_succ (fun k => by rw [bits_At.l0]) ?_
      rw [hmn, hfree, hdiv, w64 (x := ((p / 8 : Nat) : Int)) (by omega) (by omega), w64 (x := ((8 - p % 8 : Nat) : Int) - (s : Int)) (by omega) (by omega), w64 (x := 8 - (s : Int)) (by omega) (by omega), w64 (x := (p : Int) + (s : Int)) (by omega) (by omega), w64 (x := (left : Int) - (s : Int)) (by omega) (by omega)]
      rw [show ((8 - p % 8 : Nat) : Int) - (s : Int) = ((8 - p % 8 - s : Nat) : Int) by omega, show 8 - (s : Int) = ((8 - s : Nat) : Int) by omega, part_is hb (by omega) hs1.2.2]
      have hv := val_lt b p s
      have hv64 : val b p s < 2 ^ 64 := Nat.lt_of_lt_of_le hv (Nat.pow_le_pow_right (by decide) (by omega))
      have hns : n * 2 ^ s < 2 ^ (done + s) := by rw [Nat.pow_add]; exact (Nat.mul_lt_mul_right (Nat.two_pow_pos s)).2 hn
      have h64 : 2 ^ (done + s) ≤ 2 ^ 64 := Nat.pow_le_pow_right (by decide) (by omega)
      rw [w_u64 (Int.natCast_nonneg _) (by exact_mod_cast hv64), or_is (Nat.lt_of_lt_of_le hns h64) hv (by omega)]
      refine ev_neg (by omega) (ev_pos (by omega) (ev_pos (by omega) (ev_pos (by omega) (ev_pos (by omega) (ev_pos (by omega) ?_)))))
      have hn2 : n * 2 ^ s + val b p s < 2 ^ (done + s) := by
        have : n * 2 ^ s + 2 ^ s ≤ 2 ^ (done + s) := by
          rw [Nat.pow_add]
          have := Nat.mul_le_mul_right (2 ^ s) (show n + 1 ≤ 2 ^ done from hn)
          rw [Nat.add_mul, Nat.one_mul] at this
          exact this
        omega
      have := ih (left - s) (by omega) (n * 2 ^ s + val b p s) (p + s) (done + s) hn2 (by omega) (by omega)
      rw [show (((p + s : Nat)) : Int) = (p : Int) + (s : Int) by omega, show ((left - s : Nat) : Int) = (left : Int) - (s : Int) by omega] at this
      refine ev_eq this ?_
      have e1 : val b p left = val b p s * 2 ^ (left - s) + val b (p + s) (left - s) := by
        have := val_add b p s (left - s)
        rwa [show s + (left - s) = left by omega] at this
      have e2 : n * 2 ^ left = n * 2 ^ s * 2 ^ (left - s) := by rw [Nat.mul_assoc, ← Nat.pow_add, show s + (left - s) = left by omega]
      rw [e1, e2, Nat.add_mul]
      congr 2
      omega
theorem at_ev {b : List Int} (hb : Byt b) (hl : b.length < 1000000) (p w : Int) (hw : -9223372036854775808 ≤ w ∧ w ≤ 9223372036854775807) : Ev (fun k => bits_At.f k b p w) (atR b p w) := by
  unfold bits_At.f atR
  have hbad : ∀ c : Bool, c = true → Ev (fun k => bits_At.j0 k b p w c) (0, 20) := fun c hc => ev_stop fun k => by rw [bits_At.j0, if_pos hc]
  by_cases h1 : w < 0
  · rw [if_pos (.inl h1)]; exact ev_pos h1 (hbad _ rfl)
  · refine ev_neg h1 ?_
    by_cases h2 : w > 64
    · rw [if_pos (.inr h2)]; exact hbad _ (by simpa using h2)
    · rw [if_neg (by omega)]
      refine ev_succ (fun k => by rw [bits_At.j0]) ?_
      rw [w64 (x := 8 * (b.length : Int)) (by omega) (by omega), w64 (x := 8 * (b.length : Int) - w) (by omega) (by omega)]
      refine ev_neg (by simpa using h2) ?_
      by_cases h3 : p < 0
      · rw [if_pos (.inl h3)]; exact ev_pos h3 (Ev.now _)
      · refine ev_neg h3 ?_
        by_cases h4 : p > 8 * (b.length : Int) - w
        · rw [if_pos (.inr h4)]; exact ev_pos h4 (Ev.now _)
        · rw [if_neg (by omega)]
          refine ev_neg h4 ?_
          have := at_loop hb hl w.toNat 0 p.toNat 0 (by decide) (by omega) (by omega)
          rw [show ((p.toNat : Nat) : Int) = p by omega, show ((w.toNat : Nat) : Int) = w by omega] at this
          simpa using this

/-! ### The reference's -/
/-! ### Clear -/
def clr (b : List Int) (p : Int) : Bool := if p < 0 then false else decide (∀ q, q < 8 * b.length → p.toNat ≤ q → bt b q = 0)
theorem clear_loop {b : List Int} (hb : Byt b) (hl : b.length < 1000000) (d : Nat) : ∀ p : Nat, 8 * b.length - p ≤ d → p ≤ 8 * b.length →
    Ev (fun k => bits_Clear.l0 k b (p : Int)) (decide (∀ q, q < 8 * b.length → p ≤ q → bt b q = 0)) := by
  induction d with
  | zero =>
    intro p hd hp
    refine ev_eq (ev_stop (r := true) fun k => by rw [bits_Clear.l0, w64 (by omega) (by omega), if_neg (by omega)]) ?_
    rw [eq_comm, decide_eq_true_iff]
    intro q hq hpq
    omega
  | succ d ih =>
    intro p hd hp
    by_cases hlt : p < 8 * b.length
    · have hmod : Int.tmod (p : Int) 8 = ((p % 8 : Nat) : Int) := by rw [tmod_pos (by omega)]; omega
      obtain ⟨s, hs⟩ : ∃ s : Nat, s = min (8 - p % 8) (8 * b.length - p) := ⟨_, rfl⟩
      have hmn : mn (wrap64 (8 - Int.tmod (p : Int) 8)) (wrap64 (wrap64 (8 * (b.length : Int)) - (p : Int))) = (s : Int) := by
        rw [hmod, w64 (x := 8 - ((p % 8 : Nat) : Int)) (by omega) (by omega), w64 (x := 8 * (b.length : Int)) (by omega) (by omega), w64 (x := 8 * (b.length : Int) - (p : Int)) (by omega) (by omega)]
        have := @mn_le (8 - ((p % 8 : Nat) : Int)) (8 * (b.length : Int) - (p : Int))
        omega
      have hat := at_ev hb hl (p : Int) (s : Int) (by omega)
      have hR : atR b (p : Int) (s : Int) = ((val b p s : Int), 0) := by
        unfold atR
        rw [if_neg (by omega), if_neg (by omega)]
        simp
      rw [hR] at hat
      have hz := val_zero b p s
      refine ev_succ (fun k => by rw [bits_Clear.l0]) ?_
      rw [hmn, w64 (x := 8 * (b.length : Int)) (by omega) (by omega), w64 (x := (p : Int) + (s : Int)) (by omega) (by omega)]
      refine ev_pos (by omega) (ev_bind hat ?_)
      by_cases hv : val b p s = 0
      · refine ev_pos (by simp [hv]) ?_
        have := ih (p + s) (by omega) (by omega)
        rw [show ((p + s : Nat) : Int) = (p : Int) + (s : Int) by omega] at this
        refine ev_eq this ?_
        rw [decide_eq_decide]
        constructor
        · intro h q hq hpq
          rcases Nat.lt_or_ge q (p + s) with h' | h'
          · have := hz.1 hv (q - p) (by omega)
            rwa [show p + (q - p) = q by omega] at this
          · exact h q hq h'
        · intro h q hq hpq
          exact h q hq (by omega)
      · refine ev_neg (by simp; omega) (ev_eq (Ev.now _) ?_)
        rw [eq_comm, decide_eq_false_iff_not]
        intro h
        exact hv (hz.2 (fun j hj => h (p + j) (by omega) (by omega)))
    · refine ev_eq (ev_stop (r := true) fun k => by rw [bits_Clear.l0, w64 (by omega) (by omega), if_neg (by omega)]) ?_
      rw [eq_comm, decide_eq_true_iff]
      intro q hq hpq
      omega
theorem clear_ev {b : List Int} (hb : Byt b) (hl : b.length < 1000000) (p : Int) : Ev (fun k => bits_Clear.f k b p) (clr b p) := by
  unfold bits_Clear.f clr
  by_cases h : p < 0
  · rw [if_pos h]; exact ev_pos h (Ev.now _)
  · rw [if_neg h]
    refine ev_neg h ?_
    by_cases hp : p.toNat ≤ 8 * b.length
    · have := clear_loop hb hl _ p.toNat (Nat.le_refl _) hp
      rw [show ((p.toNat : Nat) : Int) = p by omega] at this
      exact this
    · refine ev_eq (ev_stop (r := true) fun k => by rw [bits_Clear.l0, w64 (by omega) (by omega), if_neg (by omega)]) ?_
      rw [eq_comm, decide_eq_true_iff]
      intro q hq hpq
      omega
end Go.Proofs.Ythkpnnbjcendcaa.Pure
end
section
/- What bits.Put does to bytes. -/
namespace Go.Proofs.Ythkpnnbjcendcaa.Pure
set_option linter.unusedVariables false
open Go.RowKit Go.Proofs.Ythkpnnbjcendcaa.X Go.Proofs.Ythkpnnbjcendcaa.Pl Go.Proofs.YthkpnnbjcendcaaW.PrintWords Go.Proofs.YthkpnnbjcendcaaW.PrintLast Go.Proofs.YthkpnnbjcendcaaW.PrintMore

/-- Bytes that hold so many bits, and nothing but 0s behind them. -/
structure Hold (b : List Int) (m : Nat) : Prop where
  byt : Byt b
  len : b.length = (m + 7) / 8
  max : m ≤ 262144
  zero : ∀ q, q < 8 * b.length → m ≤ q → bt b q = 0
theorem hold_nil : Hold [] 0 := ⟨by intro x hx; simp at hx, rfl, by decide, by intro q hq; simp at hq⟩

/-- A byte of whose bits the first a are told: the others are 0. -/
theorem low_zero (x a : Nat) (ha : a ≤ 8) (hx : x < 256) (h : ∀ j, a ≤ j → j < 8 → x / 2 ^ (7 - j) % 2 = 0) : x % 2 ^ (8 - a) = 0 := by
  have : ∀ d, d ≤ 8 - a → x % 2 ^ d = 0 := by
    intro d
    induction d with
    | zero => intro _; simp [Nat.mod_one]
    | succ d ih =>
      intro hd
      have h1 := ih (by omega)
      have h2 := h (7 - d) (by omega) (by omega)
      rw [show 7 - (7 - d) = d by omega] at h2
      rw [Nat.pow_succ, Nat.mod_mul, h1, h2, Nat.mul_zero]
  exact this _ (Nat.le_refl _)
set_option synthInstance.maxSize 4000 in
set_option synthInstance.maxHeartbeats 400000 in
/-- A part laid behind the first a bits of a byte: all cases, reckoned. -/
theorem byte_all : ∀ a, a < 9 → ∀ s, s < 9 - a → ∀ X, X < 2 ^ a → ∀ v, v < 2 ^ s →
    X * 2 ^ (8 - a) ||| v * 2 ^ (8 - a - s) = X * 2 ^ (8 - a) + v * 2 ^ (8 - a - s) ∧ X * 2 ^ (8 - a) + v * 2 ^ (8 - a - s) < 256 ∧
    (∀ j, j < a → (X * 2 ^ (8 - a) + v * 2 ^ (8 - a - s)) / 2 ^ (7 - j) % 2 = X * 2 ^ (8 - a) / 2 ^ (7 - j) % 2) ∧
    (∀ j, j < s → (X * 2 ^ (8 - a) + v * 2 ^ (8 - a - s)) / 2 ^ (7 - (a + j)) % 2 = v / 2 ^ (s - 1 - j) % 2) ∧
    (∀ j, j < 8 - a - s → (X * 2 ^ (8 - a) + v * 2 ^ (8 - a - s)) / 2 ^ j % 2 = 0) := by decide +kernel
theorem bt_set (b : List Int) (i : Nat) (y : Nat) (hi : i < b.length) (q : Nat) : bt (b.set i (y : Int)) q = if q / 8 = i then y / 2 ^ (7 - q % 8) % 2 else bt b q := by
  unfold bt by_
  by_cases h : q / 8 = i
  · rw [if_pos h, h]
    simp [List.getD_eq_getElem?_getD, hi]
  · rw [if_neg h]
    simp only [List.getD_eq_getElem?_getD]
    rw [List.getElem?_set_ne (fun e => h e.symm)]
theorem bt_app (b : List Int) (q : Nat) : bt (b ++ [0]) q = bt b q := by
  unfold bt by_
  simp only [List.getD_eq_getElem?_getD]
  by_cases h : q / 8 < b.length
  · rw [List.getElem?_append_left h]
  · rw [List.getElem?_append_right (by omega), List.getElem?_eq_none (l := b) (by omega)]
    by_cases h2 : q / 8 - b.length = 0
    · rw [h2]; rfl
    · rw [List.getElem?_eq_none (by simp; omega)]
/-- The bytes with room for one bit more. -/
def room (b : List Int) (m : Nat) : List Int := if m % 8 = 0 then b ++ [0] else b
theorem room_len {b : List Int} {m : Nat} (h : Hold b m) : (room b m).length = m / 8 + 1 := by
  have := h.len
  unfold room
  split
  · rw [List.length_append, List.length_singleton]; omega
  · omega
theorem room_bt (b : List Int) (m q : Nat) : bt (room b m) q = bt b q := by
  unfold room
  split
  · exact bt_app b q
  · rfl
theorem room_byt {b : List Int} {m : Nat} (h : Hold b m) : Byt (room b m) := by
  unfold room
  split
  · intro x hx
    rcases List.mem_append.1 hx with hx | hx
    · exact h.byt x hx
    · obtain rfl := List.mem_singleton.1 hx; omega
  · exact h.byt
theorem room_zero {b : List Int} {m : Nat} (h : Hold b m) (q : Nat) (hq : m ≤ q) : bt (room b m) q = 0 := by
  rw [room_bt]
  by_cases hlt : q < 8 * b.length
  · exact h.zero q hlt hq
  · unfold bt by_
    rw [List.getD_eq_getElem?_getD, List.getElem?_eq_none (by omega)]
    simp
/-- One part laid behind. -/
theorem lay {b : List Int} {m : Nat} (h : Hold b m) (s v : Nat) (hs : m % 8 + s ≤ 8) (h1 : 1 ≤ s) (hm : m + s ≤ 262144) (hv : v < 2 ^ s) :
    ∃ y : Nat, by_ (room b m) (8 * (m / 8)) ||| v * 2 ^ (8 - m % 8 - s) = y ∧ y < 256 ∧ Hold ((room b m).set (m / 8) (y : Int)) (m + s) ∧
      (∀ q, q < m → bt ((room b m).set (m / 8) (y : Int)) q = bt b q) ∧ (∀ j, j < s → bt ((room b m).set (m / 8) (y : Int)) (m + j) = v / 2 ^ (s - 1 - j) % 2) := by
  have hlen := room_len h
  have hx := (by_rd (room_byt h) (8 * (m / 8)) (by omega)).2
  have hz : by_ (room b m) (8 * (m / 8)) % 2 ^ (8 - m % 8) = 0 := by
    refine low_zero _ _ (by omega) hx ?_
    intro j hj hj8
    have := room_zero h (8 * (m / 8) + j) (by omega)
    unfold bt by_ at this
    rw [show (8 * (m / 8) + j) / 8 = m / 8 by omega, show (8 * (m / 8) + j) % 8 = j by omega] at this
    unfold by_
    rw [show 8 * (m / 8) / 8 = m / 8 by omega]
    exact this
  obtain ⟨X, hX⟩ : ∃ X, by_ (room b m) (8 * (m / 8)) = X * 2 ^ (8 - m % 8) := ⟨_, (Nat.div_mul_cancel (Nat.dvd_of_mod_eq_zero hz)).symm⟩
  have hXlt : X < 2 ^ (m % 8) := by
    have e : 2 ^ (m % 8) * 2 ^ (8 - m % 8) = 256 := by rw [← Nat.pow_add, show m % 8 + (8 - m % 8) = 8 by omega]
    rw [hX, ← e] at hx
    exact Nat.lt_of_mul_lt_mul_right hx
  obtain ⟨b1, b2, b3, b4, b5⟩ := byte_all (m % 8) (by omega) s (by omega) X hXlt v hv
  rw [hX, b1]
  have hset := fun q => bt_set (room b m) (m / 8) (X * 2 ^ (8 - m % 8) + v * 2 ^ (8 - m % 8 - s)) (by omega) q
  generalize X * 2 ^ (8 - m % 8) + v * 2 ^ (8 - m % 8 - s) = y at *
  refine ⟨y, rfl, b2, ⟨?_, ?_, hm, ?_⟩, ?_, ?_⟩
  · intro z hz'
    rcases List.mem_or_eq_of_mem_set hz' with h' | rfl
    · exact room_byt h z h'
    · omega
  · rw [List.length_set, hlen]; omega
  · intro q hq hmq
    rw [List.length_set, hlen] at hq
    rw [hset, if_pos (by omega)]
    have := b5 (7 - q % 8) (by omega)
    exact this
  · intro q hq
    rw [hset]
    split
    · rename_i e
      rw [b3 (q % 8) (by omega), ← hX, ← room_bt b m q]
      unfold bt by_
      rw [e, show 8 * (m / 8) / 8 = m / 8 by omega]
    · exact room_bt b m q
  · intro j hj
    rw [hset, if_pos (by omega), show (m + j) % 8 = m % 8 + j by omega]
    exact b4 j hj
theorem mod_bit (t s e : Nat) (h : e < s) : t % 2 ^ s / 2 ^ e % 2 = t / 2 ^ e % 2 := by
  have e1 : 2 ^ s = 2 ^ e * 2 ^ (s - e) := by rw [← Nat.pow_add, show e + (s - e) = s by omega]
  rw [e1, Nat.mod_mul_right_div_self]
  refine Nat.mod_mod_of_dvd _ ?_
  rw [show s - e = (s - e - 1) + 1 by omega, Nat.pow_succ]
  exact Nat.dvd_mul_left 2 _
theorem part_of {n left s : Nat} (hn : n < 2 ^ 64) (hl : left ≤ 64) (hs : s ≤ left) (hs8 : s ≤ 8) :
    Go.bits .and .u8 ((shr .u64 (n : Int) ((left - s : Nat) : Int)) % 256) (shr .u8 255 ((8 - s : Nat) : Int)) = ((n / 2 ^ (left - s) % 2 ^ s : Nat) : Int) := by
  have e1 : min ((left - s : Nat) : Int).toNat IntKind.u64.bits = left - s := by
    rw [Int.toNat_natCast]; exact Nat.min_eq_left (by show _ ≤ 64; omega)
  have e2 : min ((8 - s : Nat) : Int).toNat IntKind.u8.bits = 8 - s := by
    rw [Int.toNat_natCast]; exact Nat.min_eq_left (by show _ ≤ 8; omega)
  unfold shr
  rw [e1, e2, mask8 hs8]
  have e3 : ((n : Nat) : Int) / 2 ^ (left - s) % 256 = ((n / 2 ^ (left - s) % 256 : Nat) : Int) := by
    rw [Int.natCast_emod, Int.natCast_ediv]; simp
  have h4 : n / 2 ^ (left - s) % 256 < 2 ^ 8 := Nat.mod_lt _ (by decide)
  rw [e3, bits_mask .u8 8 (by decide) wraps_u8 s hs8 _ (Int.natCast_nonneg _) (by exact_mod_cast h4)]
  have hd : n / 2 ^ (left - s) % 256 % 2 ^ s = n / 2 ^ (left - s) % 2 ^ s := Nat.mod_mod_of_dvd _ (by
    have : (256 : Nat) = 2 ^ s * 2 ^ (8 - s) := by rw [← Nat.pow_add, show s + (8 - s) = 8 by omega]
    rw [this]; exact Nat.dvd_mul_right _ _)
  rw [← hd]
  simp
theorem or_part {x v e : Nat} (hx : x < 256) (he : e ≤ 8) (hv : v * 2 ^ e < 256) : Go.bits .or .u8 (x : Int) (shl .u8 (v : Int) ((e : Nat) : Int)) = ((x ||| v * 2 ^ e : Nat) : Int) := by
  have e1 : min ((e : Nat) : Int).toNat IntKind.u8.bits = e := by
    rw [Int.toNat_natCast]; exact Nat.min_eq_left (by show _ ≤ 8; omega)
  have hc : (v : Int) * 2 ^ e = ((v * 2 ^ e : Nat) : Int) := by simp
  unfold shl
  rw [e1, hc, wraps_u8 _ (Int.natCast_nonneg _) (by exact_mod_cast hv)]
  exact (bits_nat .u8 8 (by decide) wraps_u8 x (v * 2 ^ e) hx hv).2
/-- All parts laid behind. -/
theorem put_loop {n : Nat} (hn : n < 2 ^ 64) (left : Nat) : ∀ (b : List Int) (m : Nat), Hold b m → left ≤ 64 → m + left ≤ 262144 →
    ∃ b', Ev (fun k => bits_Bits_Put.l0 k b (m : Int) (n : Int) (left : Int)) (0, b', ((m + left : Nat) : Int)) ∧ Hold b' (m + left) ∧
      (∀ q, q < m → bt b' q = bt b q) ∧ (∀ j, j < left → bt b' (m + j) = n / 2 ^ (left - 1 - j) % 2) := by
  induction left using Nat.strongRecOn with
  | _ left ih =>
    intro b m h hl hm
    by_cases h0 : left = 0
    · subst h0
      exact ⟨b, ev_stop fun k => by rw [bits_Bits_Put.l0, if_neg (by simp)]; simp, h, fun q hq => rfl, fun j hj => absurd hj (by omega)⟩
    · have hmod : Int.tmod (m : Int) 8 = ((m % 8 : Nat) : Int) := by rw [tmod_pos (by omega)]; omega
      obtain ⟨s, hs⟩ : ∃ s : Nat, s = min (8 - m % 8) left := ⟨_, rfl⟩
      have hfree : wrap64 (8 - Int.tmod (m : Int) 8) = ((8 - m % 8 : Nat) : Int) := by rw [hmod, w64 (by omega) (by omega)]; omega
      have hmn : mn ((8 - m % 8 : Nat) : Int) (left : Int) = (s : Int) := by
        have := @mn_le ((8 - m % 8 : Nat) : Int) (left : Int)
        omega
      have hs1 : 1 ≤ s ∧ s ≤ left ∧ m % 8 + s ≤ 8 := by omega
      have hlen := room_len h
      have hv : n / 2 ^ (left - s) % 2 ^ s < 2 ^ s := Nat.mod_lt _ (Nat.two_pow_pos s)
      obtain ⟨y, hy, hy8, hh, hold, hnew⟩ := lay h s (n / 2 ^ (left - s) % 2 ^ s) hs1.2.2 hs1.1 (by omega) hv
      have hrd := by_rd (room_byt h) (8 * (m / 8)) (by omega)
      rw [show 8 * (m / 8) / 8 = m / 8 by omega] at hrd
      have hvm : n / 2 ^ (left - s) % 2 ^ s * 2 ^ (8 - m % 8 - s) < 256 := by
        have h1 : n / 2 ^ (left - s) % 2 ^ s * 2 ^ (8 - m % 8 - s) < 2 ^ s * 2 ^ (8 - m % 8 - s) := (Nat.mul_lt_mul_right (Nat.two_pow_pos _)).2 hv
        rw [← Nat.pow_add] at h1
        exact Nat.lt_of_lt_of_le h1 (Nat.pow_le_pow_right (by decide) (by omega) : _ ≤ 2 ^ 8)
      have hor := or_part (v := n / 2 ^ (left - s) % 2 ^ s) (e := 8 - m % 8 - s) hrd.2 (by omega) hvm
      rw [hy] at hor
      have hpart := part_of hn hl hs1.2.1 (show s ≤ 8 by omega)
      obtain ⟨b', hev, hh', hold', hnew'⟩ := ih (left - s) (by omega) ((room b m).set (m / 8) (y : Int)) (m + s) hh (by omega) (by omega)
      rw [show m + s + (left - s) = m + left by omega] at hev hh'
      refine ⟨b', ?_, hh', fun q hq => by rw [hold' q (by omega), hold q hq], ?_⟩
      · have key : Ev (fun k => bits_Bits_Put.l0 k ((room b m).set (wrap64 (((room b m).length : Int) - 1)).toNat (Go.bits .or .u8 (rd (room b m) (wrap64 (((room b m).length : Int) - 1))) (shl .u8 (Go.bits .and .u8 ((shr .u64 (n : Int) (wrap64 ((left : Int) - (s : Int)))) % 256) (shr .u8 255 (wrap64 (8 - (s : Int))))) (wrap64 (((8 - m % 8 : Nat) : Int) - (s : Int)))))) (wrap64 ((m : Int) + (s : Int))) (n : Int) (wrap64 ((left : Int) - (s : Int)))) (0, b', ((m + left : Nat) : Int)) := by
          rw [w64 (x := (left : Int) - (s : Int)) (by omega) (by omega), w64 (x := 8 - (s : Int)) (by omega) (by omega), w64 (x := ((8 - m % 8 : Nat) : Int) - (s : Int)) (by omega) (by omega), w64 (x := (m : Int) + (s : Int)) (by omega) (by omega), w64 (x := ((room b m).length : Int) - 1) (by omega) (by omega)]
          rw [show ((left : Int) - (s : Int)) = ((left - s : Nat) : Int) by omega, show 8 - (s : Int) = ((8 - s : Nat) : Int) by omega, show ((8 - m % 8 : Nat) : Int) - (s : Int) = ((8 - m % 8 - s : Nat) : Int) by omega, show ((room b m).length : Int) - 1 = ((m / 8 : Nat) : Int) by omega, hpart, hrd.1, hor, Int.toNat_natCast, show (m : Int) + (s : Int) = ((m + s : Nat) : Int) by omega]
          exact hev
        have hz1 : 0 ≤ wrap64 ((left : Int) - (s : Int)) := by rw [w64 (by omega) (by omega)]; omega
        have hz2 : 0 ≤ wrap64 (8 - (s : Int)) := by rw [w64 (by omega) (by omega)]; omega
        have hz3 : 0 ≤ wrap64 (((room b m).length : Int) - 1) ∧ wrap64 (((room b m).length : Int) - 1) < ((room b m).length : Int) := by rw [w64 (by omega) (by omega)]; omega
        have hz4 : 0 ≤ wrap64 (((8 - m % 8 : Nat) : Int) - (s : Int)) := by rw [w64 (by omega) (by omega)]; omega
        refine ev_succ (fun k => by rw [bits_Bits_Put.l0]) ?_
        simp only [hfree, hmn]
        refine ev_pos (by omega) ?_
        by_cases hm8 : m % 8 = 0
        · have er : b ++ [0] = room b m := by unfold room; rw [if_pos hm8]
          have hbl := h.len
          refine ev_pos (by omega) (ev_pos (by omega) ?_)
          simp only [Option.bind_some, er]
          exact ev_pos hz1 (ev_pos hz2 (ev_pos hz3.1 (ev_pos hz3.2 (ev_pos hz4 key))))
        · have er : room b m = b := by unfold room; rw [if_neg hm8]
          rw [er] at key hz3
          refine ev_neg (by omega) ?_
          exact ev_pos hz1 (ev_pos hz2 (ev_pos hz3.1 (ev_pos hz3.2 (ev_pos hz4 key))))
      · intro j hj
        by_cases hjs : j < s
        · rw [hold' (m + j) (by omega), hnew j hjs, mod_bit _ _ _ (by omega), Nat.div_div_eq_div_mul, ← Nat.pow_add, show left - s + (s - 1 - j) = left - 1 - j by omega]
        · have := hnew' (j - s) (by omega)
          rw [show m + s + (j - s) = m + j by omega] at this
          rw [this, show left - s - 1 - (j - s) = left - 1 - j by omega]
/-- May a number be put, and what is told of it? -/
def putC (m : Nat) (n w : Int) : Int := if w < 0 ∨ w > 64 then 20 else if ¬ n < 2 ^ w.toNat then 1 else if (m : Int) + w > 262144 then 3 else 0
theorem put_ev {b : List Int} {m : Nat} (h : Hold b m) (n w : Int) (hn : 0 ≤ n ∧ n < 2 ^ 64) (hw : -9223372036854775808 ≤ w ∧ w ≤ 9223372036854775807) :
    ∃ (b' : List Int) (m' : Nat), Ev (fun k => bits_Bits_Put.f k b (m : Int) n w) (putC m n w, b', (m' : Int)) ∧ Hold b' m' ∧ (putC m n w ≠ 0 → b' = b ∧ m' = m) ∧
      (putC m n w = 0 → m' = m + w.toNat ∧ (∀ q, q < m → bt b' q = bt b q) ∧ (∀ j, j < w.toNat → bt b' (m + j) = n.toNat / 2 ^ (w.toNat - 1 - j) % 2)) := by
  have hm := h.max
  have now : ∀ {c x : Int} {y : List Int × Int}, Ev (fun _ : Nat => some (c, y)) (c, y) := fun {_ _ _} => ⟨0, fun _ _ => rfl⟩
  have stay : ∀ {c : Int}, c ≠ 0 → putC m n w = c → Ev (fun k => bits_Bits_Put.f k b (m : Int) n w) (c, b, (m : Int)) →
      ∃ (b' : List Int) (m' : Nat), Ev (fun k => bits_Bits_Put.f k b (m : Int) n w) (putC m n w, b', (m' : Int)) ∧ Hold b' m' ∧ (putC m n w ≠ 0 → b' = b ∧ m' = m) ∧
      (putC m n w = 0 → m' = m + w.toNat ∧ (∀ q, q < m → bt b' q = bt b q) ∧ (∀ j, j < w.toNat → bt b' (m + j) = n.toNat / 2 ^ (w.toNat - 1 - j) % 2)) := by
    intro c hc e hev
    rw [e]
    exact ⟨b, m, hev, h, fun _ => ⟨rfl, rfl⟩, fun h0 => absurd h0 hc⟩
  by_cases h1 : w < 0
  · refine stay (c := 20) (by decide) (by unfold putC; rw [if_pos (Or.inl h1)]) ?_
    unfold bits_Bits_Put.f
    exact ev_pos h1 (ev_succ (f := fun _ => some (20, b, (m : Int))) (fun k => by rw [bits_Bits_Put.j0, if_pos rfl]) ⟨0, fun _ _ => rfl⟩)
  · by_cases h2 : w > 64
    · refine stay (c := 20) (by decide) (by unfold putC; rw [if_pos (Or.inr h2)]) ?_
      unfold bits_Bits_Put.f
      exact ev_neg h1 (ev_succ (f := fun _ => some (20, b, (m : Int))) (fun k => by rw [bits_Bits_Put.j0, if_pos (by simpa using h2)]) ⟨0, fun _ _ => rfl⟩)
    · obtain ⟨W, rfl⟩ : ∃ W : Nat, w = (W : Int) := ⟨w.toNat, by omega⟩
      obtain ⟨N, rfl⟩ : ∃ N : Nat, n = (N : Int) := ⟨n.toNat, by omega⟩
      have hW : W ≤ 64 := by omega
      have hN : N < 2 ^ 64 := by have := hn.2; exact_mod_cast this
      have hpC : putC m (N : Int) (W : Int) = if ¬ N < 2 ^ W then 1 else if (m : Int) + (W : Int) > 262144 then 3 else 0 := by
        unfold putC
        rw [if_neg (by omega), Int.toNat_natCast]
        have : ((N : Int) < 2 ^ W) ↔ N < 2 ^ W := by exact_mod_cast Iff.rfl
        simp only [this]
      have hj0 : ∀ {r : Int × List Int × Int}, Ev (fun k => bits_Bits_Put.j1 k b (m : Int) (N : Int) (W : Int) (!decide (N < 2 ^ W))) r → Ev (fun k => bits_Bits_Put.f k b (m : Int) (N : Int) (W : Int)) r := by
        intro r hr
        unfold bits_Bits_Put.f
        refine ev_neg h1 (ev_succ (fun k => by rw [bits_Bits_Put.j0, if_neg (by simpa using h2)]) ?_)
        by_cases h3 : W < 64
        · refine ev_pos (by omega) (ev_pos (by omega) ?_)
          have e : (shr .u64 (N : Int) (W : Int) != 0) = !decide (N < 2 ^ W) := by
            unfold shr
            have e1 : min (W : Int).toNat IntKind.u64.bits = W := by rw [Int.toNat_natCast]; exact Nat.min_eq_left (by show _ ≤ 64; omega)
            rw [e1]
            have e2 : (N : Int) / 2 ^ W = ((N / 2 ^ W : Nat) : Int) := by rw [Int.natCast_ediv]; simp
            rw [e2]
            by_cases h4 : N < 2 ^ W
            · rw [Nat.div_eq_of_lt h4]; simp [h4]
            · have : 0 < N / 2 ^ W := Nat.div_pos (by omega) (Nat.two_pow_pos W)
              simp only [h4, decide_false, Bool.not_false, bne_iff_ne, ne_eq]
              omega
          rw [e]
          exact hr
        · obtain rfl : W = 64 := by omega
          have e : (!decide (N < 2 ^ 64)) = false := by simp [hN]
          rw [e] at hr
          exact ev_neg (by omega) hr
      by_cases h5 : N < 2 ^ W
      · have e5 : (!decide (N < 2 ^ W)) = false := by simp [h5]
        rw [e5] at hj0
        by_cases h6 : (m : Int) + (W : Int) > 262144
        · refine stay (c := 3) (by decide) (by rw [hpC, if_neg (by simpa using h5), if_pos h6]) (hj0 ?_)
          exact ev_succ (f := fun _ => some (3, b, (m : Int))) (fun k => by rw [bits_Bits_Put.j1, if_neg (by simp), w64 (x := 262144 - (W : Int)) (by omega) (by omega), if_pos (by omega)]) ⟨0, fun _ _ => rfl⟩
        · have hc : putC m (N : Int) (W : Int) = 0 := by rw [hpC, if_neg (by simpa using h5), if_neg h6]
          obtain ⟨b', hev, hh, hold, hnew⟩ := put_loop hN W b m h hW (by omega)
          rw [hc]
          refine ⟨b', m + W, hj0 (ev_succ (fun k => by rw [bits_Bits_Put.j1, if_neg (by simp), w64 (x := 262144 - (W : Int)) (by omega) (by omega), if_neg (by omega)]) hev), hh, fun h => absurd rfl h, fun _ => ⟨by simp, hold, fun j hj => ?_⟩⟩
          rw [Int.toNat_natCast] at hj ⊢
          rw [Int.toNat_natCast]
          exact hnew j hj
      · have e5 : (!decide (N < 2 ^ W)) = true := by simp [h5]
        rw [e5] at hj0
        refine stay (c := 1) (by decide) (by rw [hpC, if_pos h5]) (hj0 ?_)
        exact ev_succ (f := fun _ => some (1, b, (m : Int))) (fun k => by rw [bits_Bits_Put.j1, if_pos rfl]) ⟨0, fun _ _ => rfl⟩
/-- The bytes are told by the bits. -/
theorem hold_ext {b c : List Int} {m : Nat} (h : Hold b m) (h' : Hold c m) (hb : ∀ q, q < m → bt b q = bt c q) : b = c := by
  have hl : b.length = c.length := by rw [h.len, h'.len]
  have hall : ∀ q, q < 8 * b.length → bt b q = bt c q := by
    intro q hq
    by_cases hm : q < m
    · exact hb q hm
    · rw [h.zero q hq (by omega), h'.zero q (by omega) (by omega)]
  refine List.ext_getElem hl ?_
  intro i hi hi'
  obtain ⟨e1, l1⟩ := by_rd h.byt (8 * i) (by omega)
  obtain ⟨e2, l2⟩ := by_rd h'.byt (8 * i) (by omega)
  have g1 : b.getD i 0 = b[i] := getD_lt b _ _ hi
  have g2 : c.getD i 0 = c[i] := getD_lt c _ _ hi'
  have hx : by_ b (8 * i) = by_ c (8 * i) := by
    have bits : ∀ j, j < 8 → by_ b (8 * i) / 2 ^ (7 - j) % 2 = by_ c (8 * i) / 2 ^ (7 - j) % 2 := by
      intro j hj
      have := hall (8 * i + j) (by omega)
      unfold bt by_ at this
      unfold by_
      rw [show (8 * i + j) / 8 = i by omega, show (8 * i + j) % 8 = j by omega] at this
      rw [show 8 * i / 8 = i by omega]
      exact this
    have b0 := bits 0 (by omega)
    have b1 := bits 1 (by omega)
    have b2 := bits 2 (by omega)
    have b3 := bits 3 (by omega)
    have b4 := bits 4 (by omega)
    have b5 := bits 5 (by omega)
    have b6 := bits 6 (by omega)
    have b7 := bits 7 (by omega)
    simp at b0 b1 b2 b3 b4 b5 b6 b7
    omega
  have m1 := h.byt _ (List.getElem_mem hi)
  have m2 := h'.byt _ (List.getElem_mem hi')
  unfold by_ at hx
  rw [show 8 * i / 8 = i by omega, g1, g2] at hx
  omega
end Go.Proofs.Ythkpnnbjcendcaa.Pure
end
section
/- Bits as a list: what bits.Put makes of it, and its bytes. -/
set_option linter.unusedVariables false
namespace Go.Proofs.Ythkpnnbjcendcaa.Pure
open Go.RowKit Go.Proofs.Ythkpnnbjcendcaa.X Go.Proofs.Ythkpnnbjcendcaa.Pl Go.Proofs.YthkpnnbjcendcaaW.PrintWords Go.Proofs.YthkpnnbjcendcaaW.PrintLast Go.Proofs.YthkpnnbjcendcaaW.PrintMore

/-- A number's lowest bits, the highest of them first. -/
def nb (n w : Nat) : List Bool := (List.range w).map fun j => decide (n / 2 ^ (w - 1 - j) % 2 = 1)
theorem nb_length (n w : Nat) : (nb n w).length = w := by simp [nb]
def b2 (b : Bool) : Nat := if b then 1 else 0
theorem b2_lt (b : Bool) : b2 b < 2 := by cases b <;> decide
/-- Bytes that hold these bits. -/
def Holds (b : List Int) (L : List Bool) : Prop := Hold b L.length ∧ ∀ q, q < L.length → bt b q = b2 (L.getD q false)
theorem holds_nil : Holds [] [] := ⟨hold_nil, fun q hq => absurd hq (by simp)⟩
/-- Put behind bits, if it may be. -/
def putL (L : List Bool) (n w : Int) : List Bool := if putC L.length n w = 0 then L ++ nb n.toNat w.toNat else L
theorem nb_getD {n w j : Nat} (h : j < w) : b2 ((nb n w).getD j false) = n / 2 ^ (w - 1 - j) % 2 := by
  have : (nb n w).getD j false = decide (n / 2 ^ (w - 1 - j) % 2 = 1) := by
    rw [List.getD_eq_getElem?_getD]
    simp [nb, h]
  rw [this]
  unfold b2
  have := Nat.mod_lt (n / 2 ^ (w - 1 - j)) (show 0 < 2 by decide)
  split <;> simp_all
theorem put_evL {b : List Int} {L : List Bool} (h : Holds b L) (n w : Int) (hn : 0 ≤ n ∧ n < 2 ^ 64) (hw : -9223372036854775808 ≤ w ∧ w ≤ 9223372036854775807) :
    ∃ b', Ev (fun k => bits_Bits_Put.f k b (L.length : Int) n w) (putC L.length n w, b', ((putL L n w).length : Int)) ∧ Holds b' (putL L n w) := by
  obtain ⟨b', m', hev, hh, hno, hyes⟩ := put_ev h.1 n w hn hw
  unfold putL
  by_cases h0 : putC L.length n w = 0
  · obtain ⟨rfl, hold, hnew⟩ := hyes h0
    rw [if_pos h0]
    have hl : (L ++ nb n.toNat w.toNat).length = L.length + w.toNat := by rw [List.length_append, nb_length]
    refine ⟨b', by rw [hl]; exact hev, ?_⟩
    unfold Holds
    rw [hl]
    refine ⟨hh, fun q hq => ?_⟩
    by_cases hq1 : q < L.length
    · rw [hold q hq1, h.2 q hq1, List.getD_eq_getElem?_getD, List.getD_eq_getElem?_getD, List.getElem?_append_left hq1]
    · have e := hnew (q - L.length) (by omega)
      rw [show L.length + (q - L.length) = q by omega] at e
      rw [e, List.getD_eq_getElem?_getD, List.getElem?_append_right (by omega), ← List.getD_eq_getElem?_getD, nb_getD (by omega)]
  · obtain ⟨rfl, rfl⟩ := hno h0
    rw [if_neg h0]
    exact ⟨_, hev, h⟩
/-- Eight bits as a byte. -/
def byteOf (f : Nat → Bool) : Nat := b2 (f 0) * 128 + b2 (f 1) * 64 + b2 (f 2) * 32 + b2 (f 3) * 16 + b2 (f 4) * 8 + b2 (f 5) * 4 + b2 (f 6) * 2 + b2 (f 7)
theorem byteOf_bit (f : Nat → Bool) (j : Nat) (hj : j < 8) : byteOf f / 2 ^ (7 - j) % 2 = b2 (f j) := by
  unfold byteOf
  have h0 := b2_lt (f 0)
  have h1 := b2_lt (f 1)
  have h2 := b2_lt (f 2)
  have h3 := b2_lt (f 3)
  have h4 := b2_lt (f 4)
  have h5 := b2_lt (f 5)
  have h6 := b2_lt (f 6)
  have h7 := b2_lt (f 7)
  rcases (by omega : j = 0 ∨ j = 1 ∨ j = 2 ∨ j = 3 ∨ j = 4 ∨ j = 5 ∨ j = 6 ∨ j = 7) with rfl | rfl | rfl | rfl | rfl | rfl | rfl | rfl <;> simp <;> omega
theorem byteOf_lt (f : Nat → Bool) : byteOf f < 256 := by
  unfold byteOf
  have h0 := b2_lt (f 0)
  have h1 := b2_lt (f 1)
  have h2 := b2_lt (f 2)
  have h3 := b2_lt (f 3)
  have h4 := b2_lt (f 4)
  have h5 := b2_lt (f 5)
  have h6 := b2_lt (f 6)
  have h7 := b2_lt (f 7)
  omega
/-- Bits as bytes, 0s behind the last one. -/
def pack (L : List Bool) : List Int := (List.range ((L.length + 7) / 8)).map fun i => (byteOf (fun j => L.getD (8 * i + j) false) : Int)
theorem pack_length (L : List Bool) : (pack L).length = (L.length + 7) / 8 := by simp [pack]
theorem pack_bt (L : List Bool) (q : Nat) (hq : q < 8 * (pack L).length) : bt (pack L) q = b2 (L.getD q false) := by
  unfold bt by_
  rw [pack_length] at hq
  have hi : q / 8 < (L.length + 7) / 8 := by omega
  have : (pack L).getD (q / 8) 0 = (byteOf (fun j => L.getD (8 * (q / 8) + j) false) : Int) := by
    rw [List.getD_eq_getElem?_getD]
    unfold pack
    simp [hi]
  rw [this, Int.toNat_natCast, byteOf_bit _ _ (by omega), show 8 * (q / 8) + q % 8 = q by omega]
theorem holds_pack {L : List Bool} (h : L.length ≤ 262144) : Holds (pack L) L := by
  refine ⟨⟨?_, pack_length L, h, ?_⟩, ?_⟩
  · intro x hx
    unfold pack at hx
    obtain ⟨i, _, rfl⟩ := List.mem_map.1 hx
    have := byteOf_lt (fun j => L.getD (8 * i + j) false)
    omega
  · intro q hq hm
    rw [pack_bt L q hq, List.getD_eq_getElem?_getD, List.getElem?_eq_none (by omega)]
    rfl
  · intro q hq
    exact pack_bt L q (by rw [pack_length]; omega)
theorem holds_eq {b : List Int} {L : List Bool} (h : Holds b L) : b = pack L := by
  have hp := holds_pack h.1.max
  exact hold_ext h.1 hp.1 (fun q hq => by rw [h.2 q hq, hp.2 q hq])
end Go.Proofs.Ythkpnnbjcendcaa.Pure
end
section
/- Resources: blocks of one's own, apart from one another, and what is told of them; all in one fact that a walk carries. -/
set_option linter.unusedVariables false
namespace Go.Proofs.Ythkpnnbjcendcaa.Sp
open Go.RowKit Go.Proofs.YthkpnnbjcendcaaW.PrintWords Go.Proofs.YthkpnnbjcendcaaW.PrintLast Go.Proofs.YthkpnnbjcendcaaW.PrintMore

/-- A resource: its blocks, and what holds of a world. -/
structure Res where
  foot : Nat → Prop
  holds : World → Prop
/-- Its blocks are new since base and are there; what it tells holds wherever these blocks stand so. -/
structure Own (base : Nat) (w : World) (r : Res) : Prop where
  lo : ∀ k, r.foot k → base ≤ k
  hi : ∀ k, r.foot k → k < w.heap.size
  tell : ∀ w', (∀ k, r.foot k → w'.heap[k]? = w.heap[k]?) → r.holds w'
/-- All of these, apart. -/
def Sep (base : Nat) (w : World) : List Res → Prop
  | [] => True
  | r :: rs => Own base w r ∧ (∀ q ∈ rs, ∀ k, r.foot k → ¬ q.foot k) ∧ Sep base w rs
/-- All but the blocks of S, of those that were there, stands as it was. -/
def Stay (w w' : World) (S : Nat → Prop) : Prop := ∀ k, k < w.heap.size → ¬ S k → w'.heap[k]? = w.heap[k]?
theorem Stay.of_kept {w w' : World} {S : Nat → Prop} (h : Kept w w' S) : Stay w w' S := h.2
theorem Stay.of_below {w w' : World} (h : Below w.heap.size w w') (S : Nat → Prop) : Stay w w' S := fun k hk _ => h.block k hk
section
variable {base : Nat} {w w' : World} {r r' a b c d : Res} {rs rs' : List Res} {S : Nat → Prop}
theorem Own.now (h : Own base w r) : r.holds w := h.tell w (fun _ _ => rfl)
theorem Own.move (h : Own base w r) (hm : ∀ k, r.foot k → w'.heap[k]? = w.heap[k]?) : Own base w' r :=
  ⟨h.lo, fun k hk => by
    have h1 := hm k hk
    rw [Array.getElem?_eq_getElem (h.hi k hk)] at h1
    exact (Array.getElem?_eq_some_iff.1 h1).1, fun w2 h2 => h.tell w2 (fun k hk => (h2 k hk).trans (hm k hk))⟩
theorem Own.kept (h : Own base w r) (hk : Stay w w' S) (hne : ∀ k, r.foot k → ¬ S k) : Own base w' r :=
  h.move (fun k hf => hk k (h.hi k hf) (hne k hf))
theorem Own.lower {base' : Nat} (h : Own base w r) (hb : base' ≤ base) : Own base' w r := ⟨fun k hk => Nat.le_trans hb (h.lo k hk), h.hi, h.tell⟩
/-- What is told, told otherwise. -/
theorem Own.imp (h : Own base w r) (hf : r'.foot = r.foot) (ht : ∀ w', r.holds w' → r'.holds w') : Own base w r' :=
  ⟨fun k hk => h.lo k (hf ▸ hk), fun k hk => h.hi k (hf ▸ hk), fun w2 h2 => ht w2 (h.tell w2 (fun k hk => h2 k (hf ▸ hk)))⟩
theorem Sep.nil (base : Nat) (w : World) : Sep base w [] := trivial
theorem Sep.own (h : Sep base w (r :: rs)) : Own base w r := h.1
theorem Sep.now (h : Sep base w (r :: rs)) : r.holds w := h.1.now
theorem Sep.drop (h : Sep base w (r :: rs)) : Sep base w rs := h.2.2
theorem Sep.apart (h : Sep base w (r :: rs)) : ∀ q ∈ rs, ∀ k, r.foot k → ¬ q.foot k := h.2.1
theorem Sep.hi (h : Sep base w rs) : ∀ q ∈ rs, ∀ k, q.foot k → k < w.heap.size := by
  induction rs with
  | nil => intro q hq; cases hq
  | cons r rs ih =>
    intro q hq
    rcases List.mem_cons.1 hq with rfl | hq
    · exact h.1.hi
    · exact ih h.2.2 q hq
theorem Sep.kept (h : Sep base w rs) (hk : Stay w w' S) (hne : ∀ q ∈ rs, ∀ k, q.foot k → ¬ S k) : Sep base w' rs := by
  induction rs with
  | nil => trivial
  | cons r rs ih => exact ⟨h.1.kept hk (hne r List.mem_cons_self), h.2.1, ih h.2.2 (fun q hq => hne q (List.mem_cons_of_mem _ hq))⟩
theorem Sep.below (h : Sep base w rs) (hb : Below w.heap.size w w') : Sep base w' rs := h.kept (Stay.of_below hb (fun _ => False)) (fun _ _ _ _ hf => hf)
/-- A call that turns the first of them. -/
theorem Sep.call (h : Sep base w (r :: rs)) (hk : Stay w w' r.foot) (ho : Own base w' r') (hf : ∀ k, r'.foot k → r.foot k ∨ w.heap.size ≤ k) : Sep base w' (r' :: rs) :=
  ⟨ho, fun q hq k hk' hq' => (hf k hk').elim (fun h1 => h.2.1 q hq k h1 hq') (fun h2 => by have := h.2.2.hi q hq k hq'; omega), h.2.2.kept hk (fun q hq k hq' hr => h.2.1 q hq k hr hq')⟩
/-- A new one. -/
theorem Sep.new (h : Sep base w rs) (hb : Below w.heap.size w w') (ho : Own base w' r) (hf : ∀ k, r.foot k → w.heap.size ≤ k) : Sep base w' (r :: rs) :=
  ⟨ho, fun q hq k hk hq' => by have := h.hi q hq k hq'; have := hf k hk; omega, h.below hb⟩
theorem sep_alloc (h : Sep base w rs) (o : Obj) : Sep base (w.alloc o) rs := h.below (below_alloc (Below.refl _ _) o)
theorem sep_drew (h : Sep base w rs) : Sep base w.drew rs := h.below (below_drew (Below.refl _ _))
theorem sep_drewN (h : Sep base w rs) (m : Nat) : Sep base (w.drewN m) rs := h.below (pw_below_drewN (Below.refl _ _) m)
theorem Sep.perm (h : Sep base w rs) (hp : rs.Perm rs') : Sep base w rs' := by
  induction hp with
  | nil => trivial
  | cons x hp ih => exact ⟨h.1, fun q hq => h.2.1 q (hp.mem_iff.2 hq), ih h.2.2⟩
  | swap x y l =>
    refine ⟨h.2.2.1 |> fun _ => h.2.2.1, ?_, h.1, ?_, h.2.2.2.2⟩
    · intro q hq k hk hq'
      rcases List.mem_cons.1 hq with rfl | hq
      · exact h.2.1 x List.mem_cons_self k hq' hk
      · exact h.2.2.2.1 q hq k hk hq'
    · exact fun q hq => h.2.1 q (List.mem_cons_of_mem _ hq)
  | trans _ _ ih1 ih2 => exact ih2 (ih1 h)
theorem Sep.p2 (h : Sep base w (a :: b :: rs)) : Sep base w (b :: a :: rs) := h.perm (List.Perm.swap _ _ _)
theorem Sep.p3 (h : Sep base w (a :: b :: c :: rs)) : Sep base w (c :: a :: b :: rs) := (h.perm ((List.Perm.swap _ _ _).cons _)).p2
theorem Sep.p4 (h : Sep base w (a :: b :: c :: d :: rs)) : Sep base w (d :: a :: b :: c :: rs) := (h.perm (((List.Perm.swap _ _ _).cons _).cons _)).p3
theorem Sep.drop2 (h : Sep base w (a :: b :: rs)) : Sep base w (a :: rs) := h.p2.drop
theorem Sep.drop3 (h : Sep base w (a :: b :: c :: rs)) : Sep base w (a :: b :: rs) := h.p3.drop
theorem Sep.drop4 (h : Sep base w (a :: b :: c :: d :: rs)) : Sep base w (a :: b :: c :: rs) := h.p4.drop
end

/-! ### A variable in memory -/
/-- The block g is a variable's, of these cells. -/
def box (g : Nat) (cs : Array Value) (t : Nat) : Res := ⟨fun k => k = g, fun w => w.heap[g]? = some (.cells cs t (0, 0))⟩
section
variable {base g t : Nat} {cs cs' : Array Value} {w w' : World} {rs : List Res}
theorem Own.box (hb : base ≤ g) (h : w.heap[g]? = some (.cells cs t (0, 0))) : Own base w (box g cs t) :=
  ⟨fun k hk => by rw [hk]; exact hb, fun k hk => by rw [hk]; exact blk_lt h, fun w' hw => (hw g rfl).trans h⟩
theorem Sep.blk (h : Sep base w (box g cs t :: rs)) : w.heap[g]? = some (.cells cs t (0, 0)) := h.now
theorem Sep.ge (h : Sep base w (box g cs t :: rs)) : base ≤ g := h.1.lo g rfl
theorem Sep.cell (h : Sep base w (box g cs t :: rs)) (i : Nat) : w.cell? ⟨g, i, none⟩ = cs[i]? := blk_cell h.blk i
theorem Sep.free (h : Sep base w (box g cs t :: rs)) (i : Nat) : w.frozen? ⟨g, i, none⟩ = false := blk_frozen h.blk i
theorem Sep.newbox (h : Sep base w rs) (hb : Below w.heap.size w w') (hg : w.heap.size ≤ g) (hB : base ≤ w.heap.size) (hx : w'.heap[g]? = some (.cells cs t (0, 0))) : Sep base w' (Sp.box g cs t :: rs) :=
  h.new hb (Own.box (Nat.le_trans hB hg) hx) (fun k hk => by rw [hk]; exact hg)
theorem Sep.set (h : Sep base w (box g cs t :: rs)) (i : Nat) (u : Value) (e : cs.setIfInBounds i u = cs') : Sep base (w.setCell ⟨g, i, none⟩ u) (Sp.box g cs' t :: rs) := by
  have hk : Kept w (w.setCell ⟨g, i, none⟩ u) (fun k => k = g) := Kept.setCell (p := ⟨g, i, none⟩) (Kept.refl w (fun k => k = g)) (.inl rfl) u
  exact h.call (Stay.of_kept hk) (Own.box h.ge (blk_put h.blk i u e)) (fun k hk => .inl hk)
end

theorem Sep.c20 {base g t : Nat} {w : World} {rs : List Res} {x0 x1 : Value} (h : Sep base w (box g #[x0, x1] t :: rs)) : w.cell? ⟨g, 0, none⟩ = some x0 := (Sep.cell h 0).trans rfl
theorem Sep.c21 {base g t : Nat} {w : World} {rs : List Res} {x0 x1 : Value} (h : Sep base w (box g #[x0, x1] t :: rs)) : w.cell? ⟨g, 1, none⟩ = some x1 := (Sep.cell h 1).trans rfl
theorem Sep.c30 {base g t : Nat} {w : World} {rs : List Res} {x0 x1 x2 : Value} (h : Sep base w (box g #[x0, x1, x2] t :: rs)) : w.cell? ⟨g, 0, none⟩ = some x0 := (Sep.cell h 0).trans rfl
theorem Sep.c31 {base g t : Nat} {w : World} {rs : List Res} {x0 x1 x2 : Value} (h : Sep base w (box g #[x0, x1, x2] t :: rs)) : w.cell? ⟨g, 1, none⟩ = some x1 := (Sep.cell h 1).trans rfl
theorem Sep.c32 {base g t : Nat} {w : World} {rs : List Res} {x0 x1 x2 : Value} (h : Sep base w (box g #[x0, x1, x2] t :: rs)) : w.cell? ⟨g, 2, none⟩ = some x2 := (Sep.cell h 2).trans rfl
theorem Sep.s20 {base g t : Nat} {w : World} {rs : List Res} {x0 x1 : Value} (h : Sep base w (box g #[x0, x1] t :: rs)) (u : Value) : Sep base (w.setCell ⟨g, 0, none⟩ u) (box g #[u, x1] t :: rs) := h.set 0 u rfl
theorem Sep.s21 {base g t : Nat} {w : World} {rs : List Res} {x0 x1 : Value} (h : Sep base w (box g #[x0, x1] t :: rs)) (u : Value) : Sep base (w.setCell ⟨g, 1, none⟩ u) (box g #[x0, u] t :: rs) := h.set 1 u rfl
theorem Sep.s31 {base g t : Nat} {w : World} {rs : List Res} {x0 x1 x2 : Value} (h : Sep base w (box g #[x0, x1, x2] t :: rs)) (u : Value) : Sep base (w.setCell ⟨g, 1, none⟩ u) (box g #[x0, u, x2] t :: rs) := h.set 1 u rfl
theorem Sep.s32 {base g t : Nat} {w : World} {rs : List Res} {x0 x1 x2 : Value} (h : Sep base w (box g #[x0, x1, x2] t :: rs)) (u : Value) : Sep base (w.setCell ⟨g, 2, none⟩ u) (box g #[x0, x1, u] t :: rs) := h.set 2 u rfl
/-! ### What a call turns -/
/-- The resource of blocks F has become mk F', new blocks apart; all else stands as it was. -/
def Turned (w0 w w' : World) (F : Nat → Prop) (mk : (Nat → Prop) → Res) : Prop :=
  ∃ F', Own w0.heap.size w' (mk F') ∧ (∀ k, (mk F').foot k → F k ∨ w.heap.size ≤ k) ∧ Below w0.heap.size w0 w' ∧ Stay w w' F
section
variable {w0 w w' : World} {r : Res} {rs : List Res} {F : Nat → Prop} {mk : (Nat → Prop) → Res}
theorem Turned.below (h : Turned w0 w w' F mk) : Below w0.heap.size w0 w' := by obtain ⟨_, _, _, h, _⟩ := h; exact h
theorem Turned.kept (h : Turned w0 w w' F mk) : Stay w w' F := by obtain ⟨_, _, _, _, h⟩ := h; exact h
theorem Turned.sep (h : Turned w0 w w' F mk) (hs : Sep w0.heap.size w (r :: rs)) (hf : r.foot = F) : ∃ F', Sep w0.heap.size w' (mk F' :: rs) := by
  subst hf
  obtain ⟨F', h1, h2, h3, h4⟩ := h
  exact ⟨F', hs.call h4 h1 h2⟩
theorem Turned.mk_ {F' : Nat → Prop} (h1 : Own w0.heap.size w' (mk F')) (h2 : ∀ k, (mk F').foot k → F k ∨ w.heap.size ≤ k) (h3 : Below w0.heap.size w0 w') (h4 : Stay w w' F) : Turned w0 w w' F mk := ⟨F', h1, h2, h3, h4⟩
end

/-- What the caller has besides: the blocks that were there and are not F's. -/
def frameR (base : Nat) (w : World) (F : Nat → Prop) : Res := ⟨fun k => base ≤ k ∧ k < w.heap.size ∧ ¬ F k, fun w' => ∀ k, base ≤ k → k < w.heap.size → ¬ F k → w'.heap[k]? = w.heap[k]?⟩
section
variable {base : Nat} {w0 w w' : World} {r : Res} {rs : List Res} {F : Nat → Prop} {mk : (Nat → Prop) → Res}
/-- At a call's begin: what it was given, and what it was not. -/
theorem Sep.start (h : Own base w r) : Sep base w [r, frameR base w r.foot] :=
  ⟨h, fun q hq k hk hq' => by
    obtain rfl := List.mem_singleton.1 hq
    exact hq'.2.2 hk, ⟨fun _ hk => hk.1, fun _ hk => hk.2.1, fun w' hw k h1 h2 h3 => hw k ⟨h1, h2, h3⟩⟩, (fun q hq => by cases hq), trivial⟩
/-- At its end: what it has turned. -/
theorem Turned.of_sep {F' : Nat → Prop} (h : Sep w0.heap.size w' [mk F', frameR w0.heap.size w F]) (hB : Below w0.heap.size w0 w) (hB' : Below w0.heap.size w0 w') : Turned w0 w w' F mk := by
  refine ⟨F', h.own, fun k hk => ?_, hB', fun k hk hn => ?_⟩
  · by_cases hF : F k
    · exact .inl hF
    · refine .inr (Nat.le_of_not_lt fun hlt => h.apart _ (List.mem_singleton.2 rfl) k hk ⟨h.own.lo k hk, hlt, hF⟩)
  · by_cases hb : w0.heap.size ≤ k
    · exact h.drop.now k hb hk hn
    · exact (hB'.block k (by omega)).trans (hB.block k (by omega)).symm
end

/-! ### A row of one's own -/
/-- The value v is a row of one's own, its blocks among F. -/
def row {α : Type} (F : Nat → Prop) (d : Kd α) (e base : Nat) (v : Value) (xs : List α) : Res := ⟨F, fun w => d.R e w base F v xs⟩
section
variable {α : Type} {d : Kd α} {e base : Nat} {v : Value} {xs : List α} {w w' : World} {F ok : Nat → Prop} {rs : List Res}
theorem Own.row (h : d.R e w base ok v xs) : ∃ F, Own base w (row F d e base v xs) ∧ ∀ k, F k → ok k :=
  ⟨fun k => ok k ∧ base ≤ k ∧ k < w.heap.size, ⟨fun _ hk => hk.2.1, fun _ hk => hk.2.2, fun w' hw => Kd.R_move (Kd.R_mono (Kd.R_bound h) (fun k hk => ⟨hk.1, hk.2.1, hk.2.2.1⟩)) (fun k hk => hw k hk)⟩, fun _ hk => hk.1⟩
/-- A row that was made since w. -/
theorem Sep.newrow (h : Sep base w rs) (hb : Below w.heap.size w w') (hB : base ≤ w.heap.size) (hr : d.R e w' w.heap.size ok v xs) : ∃ F, Sep base w' (Sp.row F d e base v xs :: rs) := by
  obtain ⟨F, h1, _⟩ := Own.row hr
  exact ⟨F, h.new hb ((h1.lower hB).imp (r' := Sp.row F d e base v xs) rfl (fun _ hw => Kd.R_lower hw hB)) h1.lo⟩
theorem Sep.nilrow (h : Sep base w rs) (d : Kd α) (e : Nat) : Sep base w (Sp.row (fun _ => False) d e base (.slice none 0 0) [] :: rs) :=
  ⟨⟨fun _ hk => hk.elim, fun _ hk => hk.elim, fun _ _ => Kd.R_nil _ _ _ _ _⟩, fun _ _ _ hk => hk.elim, h⟩
theorem Sep.R (h : Sep base w (Sp.row F d e base v xs :: rs)) : d.R e w base F v xs := h.now
end
section
variable {α : Type} {d : Kd α} {e base : Nat} {v v1 : Value} {xs xs' : List α} {W w1 : World} {F : Nat → Prop} {rs : List Res}
/-- A row that has grown: by an append, by a store. -/
theorem Sep.grown (h : Sep base W (Sp.row F d e base v xs :: rs)) (hr : d.R e w1 base (fun k => F k ∨ W.heap.size ≤ k) v1 xs') (hg : W.grownBy w1 v.ownBlock) : ∃ F', Sep base w1 (Sp.row F' d e base v1 xs' :: rs) := by
  obtain ⟨F', h1, h2⟩ := Own.row hr
  exact ⟨F', h.call (Stay.of_kept (Kept.of_grown hg (Kept.refl W F) (fun k e => .inl (h.R.1 k e)))) h1 h2⟩
theorem C_take' {w : World} {A : Option Addr} {xs : List α} (h : d.C w A xs.length xs) (m : Nat) : d.C w A (xs.take m).length (xs.take m) := by
  by_cases hm : m ≤ xs.length
  · exact Kd.C_take h hm
  · rw [List.take_of_length_le (by omega)]; exact h
end
section
variable {P : Program} {ops : Array Oper} {rest : List Oper} {o : Oper} {a : Act} {Q : Exit → Act → World → Prop} {Kc : Act → World → Prop} {α : Type}
/-- append(v, x), the row being the first of what is apart. -/
theorem wp_append (d : Kd α) {w0 W : World} (hgd : o.guard = none) (s x : Operand) (t e : TypeId) (z : Value) (bytes : Nat)
    (ho : o.op = .call { callee := .builtin .append, args := #[s, x], argTypes := #[t, t] })
    (ht : P.underlying t = some (.slice e)) (hinfo : (P.info? e).map (fun i => (i.zero, i.size, i.bytes)) = some (some z, d.sz, bytes)) (hz : z.cells.size = d.sz) (hs0 : 0 < d.sz) (hb0 : 0 < bytes)
    {v : Value} {xs : List α} (p : α) (cs : List Value) {F : Nat → Prop} {rs : List Res} (HS : Sep w0.heap.size W (row F d e w0.heap.size v xs :: rs)) (hs : a.eval s = v) (hx : a.eval x = .slice (some ⟨W.heap.size, 0, none⟩) 1 1) (hp : d.M W w0.heap.size (fun _ => False) p cs)
    (HB : Below w0.heap.size w0 W) (hl : (xs.length + 1) * bytes ≤ 140737488355328)
    (h : ∀ v1 w1 F', Sep w0.heap.size w1 (row F' d e w0.heap.size v1 (xs ++ [p]) :: rs) → Below w0.heap.size w0 w1 → wpList P ops Q rest (a.put o.dst v1) w1) :
    wpList P ops Q (o :: rest) a (W.alloc (.cells cs.toArray e)) := by
  refine Kd.R_append d (w0 := w0) w0.heap.size hgd s x t e z bytes ho ht hinfo hz hs0 hb0 v xs p cs (fun k => F k ∨ W.heap.size ≤ k) (fun _ => False) hs hx hp (fun _ hk => hk.elim) (fun _ hk => .inr hk) (Kd.R_mono HS.R (fun _ hk => .inl hk)) HB HB.size hl ?_
  intro v1 w1 hr hb hg _
  obtain ⟨F', h1⟩ := HS.grown hr hg
  exact h v1 w1 F' h1 hb
end
section
variable {P : Program} {ops : Array Oper} {rest : List Oper} {o : Oper} {a : Act} {Q : Exit → Act → World → Prop} {α : Type}
theorem below_of_grown {W w1 : World} (hg : W.grownBy w1 none) : Below W.heap.size W w1 := ⟨hg.os, hg.tape, hg.output, hg.size, fun i hi => hg.block i hi (by simp)⟩
end
section
variable {P : Program} {ops : Array Oper} {rest : List Oper} {o : Oper} {a : Act} {Q : Exit → Act → World → Prop} {Kc : Act → World → Prop} {α : Type}
/-- make([]T, 0, c). -/
theorem wp_makecap (d : Kd α) {w0 W : World} (hgd : o.guard = none) {N : Tmp} (hd : o.dst = some N) (t e : TypeId) (x y : Operand) (ho : o.op = .makeSlice t x y) (n : Nat)
    (ht : P.underlying t = some (.slice e)) (z : Value) (bytes : Nat) (hinfo : (P.info? e).map (fun i => (i.zero, i.size, i.bytes)) = some (some z, d.sz, bytes)) (hz : z.cells.size = d.sz) (hs0 : 0 < d.sz) (hb0 : 0 < bytes)
    (hl : n * bytes ≤ 281474976710656) {rs : List Res} (HS : Sep w0.heap.size W rs) (HB : Below w0.heap.size w0 W) (hx : a.eval x = .int .i64 0) (hy : a.eval y = .int .i64 (n : Int))
    (h : ∀ A c w1 F, Sep w0.heap.size w1 (row F d e w0.heap.size (.slice A 0 c) [] :: rs) → Below w0.heap.size w0 w1 → wpList P ops Q rest (a.put o.dst (.slice A 0 c)) w1) : wpList P ops Q (o :: rest) a W := by
  obtain ⟨i0, hi, hzz⟩ := Option.map_eq_some_iff.1 hinfo
  simp only [Prod.mk.injEq] at hzz
  obtain ⟨hz0, hz1, hz2⟩ := hzz
  have hm : n ≤ 281474976710656 := Nat.le_trans (Nat.le_mul_of_pos_right _ hb0) hl
  have hr := run_make (P := P) (w := W) t e i0 z ht hi hz0 .i64 .i64 0 (n : Int) (by omega) (by omega)
    (by
      have h3 : ((i0.bytes * n : Nat) : Int) ≤ 281474976710656 := by rw [hz2, Nat.mul_comm]; omega
      rwa [Int.natCast_mul] at h3) (by omega)
  simp only [Int.toNat_natCast] at hr
  have hR : d.R e (W.alloc (.cells (madeCells z.cells (n * i0.size)) e)) w0.heap.size (fun k => W.heap.size ≤ k) (.slice (some ⟨W.heap.size, 0, none⟩) 0 n) [] := by
    refine ⟨fun k hk => ?_, [], ⟨by simp, .inr ⟨W.heap.size, n, madeCells z.cells (n * i0.size), rfl, HB.size, blk_new W _, Nat.zero_le _, by simp only [maxLen]; omega, by rw [size_madeCells, hz1], by simp⟩⟩, ⟨by simp, fun j p hj => by simp at hj⟩⟩
    have : W.heap.size = k := by simpa [Value.ownBlock] using hk
    omega
  obtain ⟨F, h1, h2⟩ := Own.row hR
  refine Kd.event_run hgd (v := .slice (some ⟨W.heap.size, 0, none⟩) 0 n) (w1 := W.alloc (.cells (madeCells z.cells (n * i0.size)) e)) (by simp [execOp, ho, hx, hy, hr]) ?_
  exact h _ _ _ F (HS.new (below_alloc (Below.refl _ _) _) h1 h2) (HB.alloc HB.size _)
/-- append(v, ys...), the row being the first of what is apart; ys is read. -/
theorem wp_append_row (d : Kd α) {w0 W : World} (hgd : o.guard = none) (s x : Operand) (t e : TypeId) (z : Value) (bytes : Nat)
    (ho : o.op = .call { callee := .builtin .append, args := #[s, x], argTypes := #[t, t] })
    (ht : P.underlying t = some (.slice e)) (hinfo : (P.info? e).map (fun i => (i.zero, i.size, i.bytes)) = some (some z, d.sz, bytes)) (hz : z.cells.size = d.sz) (hs0 : 0 < d.sz) (hb0 : 0 < bytes)
    {v : Value} {xs : List α} (ys : List α) (A : Option Addr) (m c : Nat) {F : Nat → Prop} {rs : List Res} (HS : Sep w0.heap.size W (row F d e w0.heap.size v xs :: rs)) (HR : d.C W A m ys) (hKM : ∀ x cs, d.K W x cs → d.M W w0.heap.size (fun _ => False) x cs)
    (HB : Below w0.heap.size w0 W) (hl : (xs.length + m) * bytes ≤ 140737488355328) (hs : a.eval s = v) (hx : a.eval x = .slice A m c)
    (h : ∀ v1 w1 F', Sep w0.heap.size w1 (row F' d e w0.heap.size v1 (xs ++ ys) :: rs) → Below w0.heap.size w0 w1 → wpList P ops Q rest (a.put o.dst v1) w1) : wpList P ops Q (o :: rest) a W := by
  refine Kd.R_append_rows d (w0 := w0) w0.heap.size hgd s x t e z bytes ho ht hinfo hz hs0 hb0 v xs ys A m c (fun k => F k ∨ W.heap.size ≤ k) (fun _ => False) hs hx (Kd.R_mono HS.R (fun _ hk => .inl hk)) HR hKM (fun _ hk => hk.elim) (fun _ hk => .inr hk) HB HB.size hl ?_
  intro v1 w1 hr hb hg _
  obtain ⟨F', h1⟩ := HS.grown hr hg
  exact h v1 w1 F' h1 hb
end
section
variable {P : Program} {ops : Array Oper} {rest : List Oper} {o : Oper} {a : Act} {Q : Exit → Act → World → Prop} {α : Type}
/-- A literal '[]T{..}'. -/
theorem wp_lit (d : Kd α) {w0 W : World} (hgd : o.guard = none) {N : Tmp} (hd : o.dst = some N) (e : TypeId) (xs : List α) (inner : List Value)
    (hrun : (execOp a.eval o).run P W = .ok (.value (.slice (some ⟨W.heap.size, 0, none⟩) xs.length xs.length)) (W.alloc (.cells inner.toArray e)))
    (hrep : Reps (d.M W w0.heap.size (fun _ => False)) d.sz xs inner) {rs : List Res} (HS : Sep w0.heap.size W rs) (HB : Below w0.heap.size w0 W) (hm : xs.length ≤ 9223372036854775807)
    (h : ∀ v1 w1 F, Sep w0.heap.size w1 (row F d e w0.heap.size v1 xs :: rs) → Below w0.heap.size w0 w1 → wpList P ops Q rest (a.put o.dst v1) w1) : wpList P ops Q (o :: rest) a W := by
  refine Kd.R_lit d (w0 := w0) w0.heap.size e hgd hd (xs := xs) (inner := inner) (ok := fun k => W.heap.size ≤ k) (okp := fun _ => False) hrun hrep (fun _ hk => hk.elim) (Nat.le_refl _) HB HB.size hm ?_
  intro v1 w1 hr hb hg _
  obtain ⟨F, h1, h2⟩ := Own.row hr
  exact h v1 w1 F (HS.new (below_of_grown hg) h1 h2) hb
end
end Go.Proofs.Ythkpnnbjcendcaa.Sp
end
section
/- Bits in memory, and what their calls make of them: the contracts, told by the list of bits. -/
set_option linter.unusedVariables false
namespace Go.Proofs.Ythkpnnbjcendcaa.Sc
open Go.RowKit Go.Proofs.Ythkpnnbjcendcaa.X Go.Proofs.Ythkpnnbjcendcaa.Pl Go.Proofs.Ythkpnnbjcendcaa.Sp Go.Proofs.Ythkpnnbjcendcaa.Pure Go.Proofs.YthkpnnbjcendcaaW.PrintWords Go.Proofs.YthkpnnbjcendcaaW.PrintLast Go.Proofs.YthkpnnbjcendcaaW.PrintMore

/-- The block g and a row are a list of bits (bits.Bits). -/
def bitsR (base g : Nat) (L : List Bool) (F : Nat → Prop) : Res := ⟨F, fun w => ∃ u bs, w.heap[g]? = some (.cells #[u, .int .i64 (L.length : Int)] 26 (0, 0)) ∧ Kd.R (Kd.int .u8) 5 w base (fun k => k ≠ g ∧ F k) u bs ∧ Holds bs L ∧ F g⟩
theorem bitsR_mk {base g : Nat} {L : List Bool} {u : Value} {bs : List Int} {ok : Nat → Prop} {w : World} (hg : base ≤ g) (hb : w.heap[g]? = some (.cells #[u, .int .i64 (L.length : Int)] 26 (0, 0)))
    (hr : Kd.R (Kd.int .u8) 5 w base ok u bs) (hok : ∀ k, ok k → k ≠ g) (hh : Holds bs L) : Own base w (bitsR base g L (fun k => k = g ∨ (ok k ∧ base ≤ k ∧ k < w.heap.size))) := by
  refine ⟨fun k hk => ?_, fun k hk => ?_, fun w' hw => ?_⟩
  · rcases hk with rfl | hk
    · exact hg
    · exact hk.2.1
  · rcases hk with rfl | hk
    · exact blk_lt hb
    · exact hk.2.2
  · refine ⟨u, bs, (hw g (.inl rfl)).trans hb, ?_, hh, .inl rfl⟩
    have h1 : Kd.R (Kd.int .u8) 5 w base (fun k => ok k ∧ base ≤ k ∧ k < w.heap.size) u bs := Kd.R_mono (Kd.R_bound hr) (fun k hk => ⟨hk.1, hk.2.1, hk.2.2.1⟩)
    exact Kd.R_mono (Kd.R_move h1 (fun k hk => hw k (.inr hk))) (fun k hk => ⟨hok k hk.1, .inr hk⟩)
theorem Sep.newbits {base g : Nat} {w w' : World} {rs : List Res} (h : Sep base w rs) (hb : Below w.heap.size w w') (hg : w.heap.size ≤ g) (hB : base ≤ w.heap.size) (hx : w'.heap[g]? = some (.cells #[.slice none 0 0, .int .i64 0] 26 (0, 0))) :
    ∃ F, Sep base w' (bitsR base g [] F :: rs) := by
  refine ⟨_, h.new hb (bitsR_mk (L := []) (ok := fun _ => False) (Nat.le_trans hB hg) hx (Kd.R_nil _ _ _ _ _) (fun _ hk => hk.elim) holds_nil) ?_⟩
  rintro k (rfl | ⟨h1, _⟩)
  · exact hg
  · exact h1.elim
theorem put_calls (g : Nat) (F : Nat → Prop) (L : List Bool) (n wd : Int) (w0 w : World) (hB : Below w0.heap.size w0 w) (hO : Own w0.heap.size w (bitsR w0.heap.size g L F)) (hn : 0 ≤ n ∧ n < 2 ^ 64) (hw : -9223372036854775808 ≤ wd ∧ wd ≤ 9223372036854775807) :
    Calls Try.prog 22 #[.pointer (some ⟨g, 0, none⟩), .int .u64 n, .int .i64 wd] w fun e w' => e = .returned (.int .i64 (putC L.length n wd)) ∧ Turned w0 w w' F (bitsR w0.heap.size g (putL L n wd)) := by
  obtain ⟨u, bs, hb, hr, hh, hF⟩ := hO.now
  obtain ⟨b', ⟨K, hev⟩, hh'⟩ := put_evL hh n wd hn hw
  refine (bits_Bits_Put.calls K g u bs L.length n wd _ b' _ w0 w hB (hO.lo g hF) hb (Kd.R_mono hr (fun k hk => hk.1)) (hev K (Nat.le_refl _))).mono ?_
  rintro e w' ⟨v1, rfl, hb', hr', hB', hK⟩
  have hu : ∀ k, some k = u.ownBlock → F k := fun k hk => (hr.1 k hk.symm).2
  refine ⟨rfl, Turned.mk_ (bitsR_mk (hO.lo g hF) hb' hr' (fun k hk => hk.1) hh') ?_ hB' (Stay.of_kept (hK.mono (fun k hk => hk.elim (fun e => e ▸ hF) (hu k))))⟩
  rintro k (rfl | ⟨⟨_, h | h⟩, _⟩)
  · exact .inl hF
  · exact .inl (hu k h)
  · exact .inr h
theorem clone_f (b : List Int) (h : b.length < 140737488355328) : slices_Clone_byte_byte.f b = some b := by
  unfold slices_Clone_byte_byte.f
  simp [h]
theorem bytes_calls (base g : Nat) (F : Nat → Prop) (L : List Bool) (w : World) (h : Own base w (bitsR base g L F)) :
    Calls Try.prog 25 #[.pointer (some ⟨g, 0, none⟩)] w fun e w' => ∃ v, e = .returned v ∧ Kd.R (Kd.int .u8) 5 w' w.heap.size (fun _ => True) v (pack L) ∧ Below w.heap.size w w' := by
  obtain ⟨u, bs, hb, hr, hh, hF⟩ := h.now
  have hl := hh.1.len
  have hm := hh.1.max
  rw [← holds_eq hh]
  exact bits_Bits_Bytes.calls g base u bs _ bs w _ hb hr (clone_f bs (by omega))
theorem at_calls (A : Option Addr) (c : Nat) (b : List Int) (p wd : Int) (w : World) (hr : Kd.C (Kd.int .u8) w A b.length b) (hc : b.length ≤ c) (hb : Byt b) (hl : b.length < 1000000) (hw : -9223372036854775808 ≤ wd ∧ wd ≤ 9223372036854775807) :
    Calls Try.prog 27 #[.slice A b.length c, .int .i64 p, .int .i64 wd] w fun e w' => e = .returned (.tuple #[.int .u64 (atR b p wd).1, .int .i64 (atR b p wd).2]) ∧ Below w.heap.size w w' := by
  obtain ⟨K, hev⟩ := at_ev hb hl p wd hw
  exact bits_At.calls K A c b p wd _ _ w hr hc (hev K (Nat.le_refl _))
theorem at_calls_eq (A : Option Addr) (c : Nat) (b : List Int) (p wd r1 r2 : Int) (w : World) (hr : Kd.C (Kd.int .u8) w A b.length b) (hc : b.length ≤ c) (hb : Byt b) (hl : b.length < 1000000) (hw : -9223372036854775808 ≤ wd ∧ wd ≤ 9223372036854775807) (h : atR b p wd = (r1, r2)) :
    Calls Try.prog 27 #[.slice A b.length c, .int .i64 p, .int .i64 wd] w fun e w' => e = .returned (.tuple #[.int .u64 r1, .int .i64 r2]) ∧ Below w.heap.size w w' := by
  have := at_calls A c b p wd w hr hc hb hl hw
  rw [h] at this
  exact this
end Go.Proofs.Ythkpnnbjcendcaa.Sc
end
end
