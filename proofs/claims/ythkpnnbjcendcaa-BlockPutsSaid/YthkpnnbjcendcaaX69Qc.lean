-- By xprint.py, out of the translation's own print. Lean checks it.
import Derived.Test.YthkpnnbjcendcaaX0Qc
namespace Go.Proofs.Ythkpnnbjcendcaa.X
open Go.RowKit Go.Proofs.YthkpnnbjcendcaaW.PrintWords Go.Proofs.YthkpnnbjcendcaaW.PrintLast Go.Proofs.YthkpnnbjcendcaaW.PrintMore
attribute [local go_sem] max2_int min2_int max_two min_two max_three min_three max_four min_four   -- for this text's walks alone
set_option linter.unusedVariables false
set_option linter.unusedSimpArgs false

/-! ### marigraphlaw09_few: function 44 -/
def marigraphlaw09_few.l0 : Nat → List (S109) → Int → List (S109) → Int → Int → Option ((List (S109)))
  | 0, _, _, _, _, _ => none
  | k + 1, x3, x4, x7, x8, x9 => if x9 < x8 then (if 0 ≤ x9 then (if x9 < (x7.length : Int) then (if x9 ≥ 210 then (some x3) else (if (((rd_T109 x7 x9).f1).length : Int) > (mn x4 1100) then (some x3) else (if x3.length < 4398046511104 then (marigraphlaw09_few.l0 k (x3 ++ [(⟨(rd_T109 x7 x9).f0, (rd_T109 x7 x9).f1⟩ : S109)]) (wrap64 (x4 - (((rd_T109 x7 x9).f1).length : Int))) x7 x8 (wrap64 (x9 + 1))) else (none)))) else (none)) else (none)) else (some x3)
def marigraphlaw09_few.f (k : Nat) (l0 : List (S109)) : Option ((List (S109))) := marigraphlaw09_few.l0 k ([] : List (S109)) 6000 l0 (l0.length : Int) 0
theorem marigraphlaw09_few.mono_l : ∀ k, (∀ y0 y1 y2 y3 y4, LeO (marigraphlaw09_few.l0 k y0 y1 y2 y3 y4) (marigraphlaw09_few.l0 (k + 1) y0 y1 y2 y3 y4))
  | 0 => fun _ _ _ _ _ r h => by simp [marigraphlaw09_few.l0] at h
  | k + 1 => by
    have ih0 := marigraphlaw09_few.mono_l k
    · intro y0 y1 y2 y3 y4
      unfold marigraphlaw09_few.l0
      repeat' first
      | (with_reducible exact ih0 _ _ _ _ _)
      | (with_reducible exact LeO.refl _)
      | (with_reducible exact LeO.none _)
      | (with_reducible refine LeO.ite ?_ ?_)
      | (with_reducible refine LeO.bind ?_ (fun _ => ?_))
      | exact ih0 _ _ _ _ _
      | exact LeO.none _
      | refine LeO.ite ?_ ?_
      | refine LeO.bind ?_ (fun _ => ?_)
theorem marigraphlaw09_few.mono : ∀ a0 k, LeO (marigraphlaw09_few.f k a0) (marigraphlaw09_few.f (k + 1) a0) := by
  intro a0 k
  have ih0 := marigraphlaw09_few.mono_l k
  unfold marigraphlaw09_few.f
  repeat' first
      | (with_reducible exact ih0 _ _ _ _ _)
      | (with_reducible exact LeO.refl _)
      | (with_reducible exact LeO.none _)
      | (with_reducible refine LeO.ite ?_ ?_)
      | (with_reducible refine LeO.bind ?_ (fun _ => ?_))
      | exact ih0 _ _ _ _ _
      | exact LeO.none _
      | refine LeO.ite ?_ ?_
      | refine LeO.bind ?_ (fun _ => ?_)
set_option maxHeartbeats 8000000 in
set_option maxRecDepth 100000 in
theorem marigraphlaw09_few.calls (k : Nat) (P0_ : Nat → Prop) (A0 : Option Addr) (c0 : Nat) (l0 : List (S109)) (r : List (S109)) (w : World) (hs0 : Kd.V k109 109 w w.heap.size (fun k_ => P0_ k_) (.slice A0 l0.length c0) l0) (h : marigraphlaw09_few.f k l0 = some r) :
    Calls Try.prog 44 #[.slice A0 l0.length c0] w fun e w' => ∃ v0_ : Value, e = .returned (v0_) ∧ Kd.N k109 109 w' w.heap.size (fun k_ => (P0_ k_ ∨ w.heap.size ≤ k_)) v0_ r ∧ Below w.heap.size w w' := by
  have hu109 := Try.underlying109
  have HO0 := Aside0.mk (show Kd.V k109 109 w w.heap.size (fun k_ => (P0_ k_ ∨ w.heap.size ≤ k_)) (.slice A0 l0.length c0) l0 from Kd.V_mono hs0 (fun k_ hk => .inl hk))
  have HB := Aside0.mk (Below.refl w.heap.size w)
  have H : (marigraphlaw09_few.l0 k ([] : List (S109)) 6000 l0 (l0.length : Int) 0) = some r := h
  clear h
  have H' := Aside0.mk H
  clear H
  go_enter Try.func44, Try.ntmps44
  go_wp2
  go_loopg [3, 4, 9] k (fun kq v3 v4 v9 w' => ∃ (x3_1 : List (S109)) (x4_1 : Int) (x9_1 : Int), v4 = .int .i64 x4_1 ∧ v9 = .int .i64 x9_1 ∧ Aside0 (marigraphlaw09_few.l0 kq x3_1 x4_1 l0 (l0.length : Int) x9_1 = some r) ∧ Aside0 (kq ≤ k) ∧ Aside0 (Kd.N k109 109 w' w.heap.size (fun k_ => (P0_ k_ ∨ w.heap.size ≤ k_)) v3 x3_1) ∧ Aside0 (Kd.V k109 109 w' w.heap.size (fun k_ => (P0_ k_ ∨ w.heap.size ≤ k_) ∧ some k_ ≠ (v3 : Value).ownBlock) (.slice A0 l0.length c0) l0) ∧ Aside0 (Below w.heap.size w w'))
  case atStart => exact ⟨(([] : List (S109))), (6000), (0), (by first | rfl | (simp; done) | (simp [*]; done) | (simp <;> grind)), (by first | rfl | (simp; done) | (simp [*]; done) | (simp <;> grind)), H', ⟨Nat.le_refl _⟩, ⟨by first | exact Kd.S_nil _ _ _ _ _ | exact Kd.N_nil _ _ _ _ _ | exact Kd.V_nil _ _ _ _ _ | exact Kd.Q_nil _ _ _ _ _ | exact Kd.R_nil _ _ _ _ _⟩, ⟨by (with_reducible repeat (first | apply Kd.V_alloc | apply Kd.V_drewN | apply Kd.V_drew)); exact Kd.V_mono HO0.out (fun _ hk => ⟨hk, (by simp [Value.ownBlock])⟩)⟩, ⟨by repeat (first | (with_reducible first | exact HB.out | apply below_alloc | apply pw_below_drewN | apply below_drew1) | exact HB.out)⟩⟩
  case round =>
    clear H'
    obtain ⟨x3_1, x4_1, x9_1, rfl, rfl, HA, HK1, HO_3, HO_7, HB⟩ := hrel
    cases gk with
    | zero => exact absurd HA.out (by simp [marigraphlaw09_few.l0])
    | succ k1 =>
      have H := HA.out
      clear HA
      simp only [marigraphlaw09_few.l0] at H
      by_cases c2 : x9_1 < (l0.length : Int)
      · rw [if_pos c2] at H
        have c2b0 : decide (x9_1 < (l0.length : Int)) = true := decide_eq_true c2
        clear c2
        by_cases c3 : 0 ≤ x9_1
        · rw [if_pos c3] at H
          have c3b0 : decide (0 ≤ x9_1) = true := decide_eq_true c3
          clear c3
          by_cases c4 : x9_1 < (l0.length : Int)
          · rw [if_pos c4] at H
            have c4b0 : decide (x9_1 < (l0.length : Int)) = true := decide_eq_true c4
            clear c4
            by_cases c5 : x9_1 ≥ 210
            · rw [if_pos c5] at H
              have c5b0 : decide (210 ≤ x9_1) = true := decide_eq_true c5
              clear c5
              obtain rfl := Option.some.inj H
              have p231 : 0 ≤ (x9_1 : Int) := of_decide_eq_true (by first | (with_reducible assumption) | assumption)
              have q231 : x9_1 < (l0.length : Int) := of_decide_eq_true (by first | (with_reducible assumption) | assumption)
              obtain ⟨ad231, A231_1, c231_1, e231, hx231_0, hx231_1, hl231_1, hi231_1⟩ := at_T109 (Kd.V_reads' HO_7.out).2.2 x9_1 p231 q231
              cases e231
              obtain ⟨ce231, hce231, hMe231, hcc231⟩ := Kd.V_get HO_7.out z109 x9_1 p231 (by first | exact q231 | exact of_decide_eq_true (by first | (with_reducible assumption) | assumption) | (have e_ := (Kd.V_reads' HO_7.out).1; omega))
              obtain ⟨ua231_1, uc231_1, rfl, ul231_1, ge231_1⟩ := k109_openF hMe231
              have hv231_1 := hcc231 1 _ rfl
              rw [add_field _ _ 1 (by omega)] at hv231_1
              replace hv231_1 := Option.some.inj (hv231_1.symm.trans hx231_1)
              injection hv231_1 with hva_ hvn_ hvc_
              rw [hva_] at ge231_1
              rw [hvc_] at ul231_1
              have HL231_1 := Aside0.mk (show Kd.V k52 52 _ w.heap.size _ _ ((rd_T109 l0 x9_1).f1) from Kd.V_mk ul231_1 ge231_1)
              clear hva_ hvn_ hvc_ ge231_1 ul231_1
              clear hcc231 hce231
              have HR231_1 := Aside0.mk hi231_1
              have HC231_1 := Aside0.mk hl231_1
              clear hi231_1 hl231_1
              replace p231 := eq_true p231
              replace q231 := eq_true q231
              go_wp2_with (first | ((with_reducible refine gate_dst (N := 6) rfl ?_); refine box_event ?hg (N := 6) ?hd (cs := #[.int .i64 0, .slice none 0 0]) (t := 109) ?hr ?_; (case hd => rfl); (case hg => rfl); (case hr => first | (go_simp; done) | (go_simp; rfl)); intro gb232 hg w6 hbox hb; have n0_ := Aside0.mk (Kd.N_below (Kd.N_elderB (by (with_reducible repeat (first | apply Kd.N_alloc | apply Kd.N_drewN | apply Kd.N_drew)); exact HO_3.out) gb232 (Nat.le_of_eq hg.symm)) hb); have n1_ := Aside0.mk (Kd.V_below (Kd.V_elderB (by (with_reducible repeat (first | apply Kd.V_alloc | apply Kd.V_drewN | apply Kd.V_drew)); exact HO_7.out) gb232 (Nat.le_of_eq hg.symm)) hb); have n2_ := Aside0.mk (Kd.V_below (Kd.V_elderB (by (with_reducible repeat (first | apply Kd.V_alloc | apply Kd.V_drewN | apply Kd.V_drew)); exact HL231_1.out) gb232 (Nat.le_of_eq hg.symm)) hb); have n3_ := Aside0.mk (Kd.C_below (by repeat (first | (with_reducible exact HR231_1.out) | (with_reducible refine Kd.C_alloc ?_ _) | (with_reducible refine Kd.C_drewN ?_ _) | (with_reducible refine Kd.C_drew ?_) | exact HR231_1.out)) hb); have n4_ := Aside0.mk (below_step (by repeat (first | (with_reducible first | exact HB.out | apply below_alloc | apply pw_below_drewN | apply below_drew1) | exact HB.out)) hb); have n5_ := Aside0.mk (hbox); have n6_ := Aside0.mk ((by rw [hg]; exact (below_size (by repeat (first | (with_reducible first | exact HB.out | apply below_alloc | apply pw_below_drewN | apply below_drew1) | exact HB.out))) : w.heap.size ≤ gb232)); have n7_ := Aside0.mk ((by rw [hg]; exact (below_size (by repeat (first | (with_reducible first | exact HB.out | apply below_alloc | apply pw_below_drewN | apply below_drew1) | exact HB.out))) : w.heap.size ≤ gb232)); clear HO_3; clear HO_7; clear HL231_1; clear HR231_1; clear HB; have HO_3 := n0_; have HO_7 := n1_; have HL231_1 := n2_; have HR231_1 := n3_; have HB := n4_; have BK232 := n5_; have GW232 := n6_; have GE232 := n7_; clear n0_ n1_ n2_ n3_ n4_ n5_ n6_ n7_; clear hb hbox hg; have hcz7_0 : w6.cell? ⟨gb232, 0, none⟩ = some (.int .i64 0) := (blk_cell BK232.out 0).trans rfl; have hcz7_1 : w6.cell? ⟨gb232, 1, none⟩ = some (.slice none 0 0) := (blk_cell BK232.out 1).trans rfl; have hfz7_0 := blk_frozen BK232.out 0; have hfz7_1 := blk_frozen BK232.out 1))
              go_ret
              exact ⟨_, by first | rfl | (simp [errW_none, errW_some] <;> rfl) | (simp [*, errW_none, errW_some] <;> rfl), by (with_reducible repeat (first | apply Kd.N_alloc | apply Kd.N_drewN | apply Kd.N_drew)); exact Kd.N_mono (Kd.N_far (p := ⟨gb232, 1, none⟩) (Kd.N_far (p := ⟨gb232, 0, none⟩) (Kd.N_mono HO_3.out (fun k_ hk => (⟨hk, hk.2⟩ : _ ∧ k_ ≠ gb232))) (fun _ hk => hk.2) (.int .i64 ((rd_T109 l0 x9_1).f0))) (fun _ hk => hk.2) (.slice A231_1 ((rd_T109 l0 x9_1).f1).length c231_1)) (fun _ hk => hk.1.1), by repeat (first | (with_reducible first | exact HB.out | apply below_alloc | apply pw_below_drewN | apply below_drew1 | refine below_set ?_ GE232.out) | exact HB.out)⟩
            · rw [if_neg c5] at H
              have c5b0 : decide (210 ≤ x9_1) = false := decide_eq_false c5
              clear c5
              obtain ⟨ji8, hji8⟩ : ∃ j_ : Int, (mn x4_1 1100) = j_ := ⟨_, rfl⟩
              replace H : (if (((rd_T109 l0 x9_1).f1).length : Int) > (ji8) then (some x3_1) else (if x3_1.length < 4398046511104 then (marigraphlaw09_few.l0 k1 (x3_1 ++ [(⟨(rd_T109 l0 x9_1).f0, (rd_T109 l0 x9_1).f1⟩ : S109)]) (wrap64 (x4_1 - (((rd_T109 l0 x9_1).f1).length : Int))) l0 (l0.length : Int) (wrap64 (x9_1 + 1))) else (none))) = some r := by first | (rw [hji8] at H; exact H) | (simp only [hji8] at H ⊢; exact H)
              have hji8_ : (if 1100 < x4_1 then 1100 else x4_1) = ji8 := hji8
              by_cases c9 : (((rd_T109 l0 x9_1).f1).length : Int) > (ji8)
              · rw [if_pos c9] at H
                have c9b0 : decide ((ji8) < (((rd_T109 l0 x9_1).f1).length : Int)) = true := decide_eq_true c9
                clear c9
                obtain rfl := Option.some.inj H
                have p231 : 0 ≤ (x9_1 : Int) := of_decide_eq_true (by first | (with_reducible assumption) | assumption)
                have q231 : x9_1 < (l0.length : Int) := of_decide_eq_true (by first | (with_reducible assumption) | assumption)
                obtain ⟨ad231, A231_1, c231_1, e231, hx231_0, hx231_1, hl231_1, hi231_1⟩ := at_T109 (Kd.V_reads' HO_7.out).2.2 x9_1 p231 q231
                cases e231
                obtain ⟨ce231, hce231, hMe231, hcc231⟩ := Kd.V_get HO_7.out z109 x9_1 p231 (by first | exact q231 | exact of_decide_eq_true (by first | (with_reducible assumption) | assumption) | (have e_ := (Kd.V_reads' HO_7.out).1; omega))
                obtain ⟨ua231_1, uc231_1, rfl, ul231_1, ge231_1⟩ := k109_openF hMe231
                have hv231_1 := hcc231 1 _ rfl
                rw [add_field _ _ 1 (by omega)] at hv231_1
                replace hv231_1 := Option.some.inj (hv231_1.symm.trans hx231_1)
                injection hv231_1 with hva_ hvn_ hvc_
                rw [hva_] at ge231_1
                rw [hvc_] at ul231_1
                have HL231_1 := Aside0.mk (show Kd.V k52 52 _ w.heap.size _ _ ((rd_T109 l0 x9_1).f1) from Kd.V_mk ul231_1 ge231_1)
                clear hva_ hvn_ hvc_ ge231_1 ul231_1
                clear hcc231 hce231
                have HR231_1 := Aside0.mk hi231_1
                have HC231_1 := Aside0.mk hl231_1
                clear hi231_1 hl231_1
                replace p231 := eq_true p231
                replace q231 := eq_true q231
                go_wp2_with (first | ((with_reducible refine gate_dst (N := 6) rfl ?_); refine box_event ?hg (N := 6) ?hd (cs := #[.int .i64 0, .slice none 0 0]) (t := 109) ?hr ?_; (case hd => rfl); (case hg => rfl); (case hr => first | (go_simp; done) | (go_simp; rfl)); intro gb232 hg w10 hbox hb; have n0_ := Aside0.mk (Kd.N_below (Kd.N_elderB (by (with_reducible repeat (first | apply Kd.N_alloc | apply Kd.N_drewN | apply Kd.N_drew)); exact HO_3.out) gb232 (Nat.le_of_eq hg.symm)) hb); have n1_ := Aside0.mk (Kd.V_below (Kd.V_elderB (by (with_reducible repeat (first | apply Kd.V_alloc | apply Kd.V_drewN | apply Kd.V_drew)); exact HO_7.out) gb232 (Nat.le_of_eq hg.symm)) hb); have n2_ := Aside0.mk (Kd.V_below (Kd.V_elderB (by (with_reducible repeat (first | apply Kd.V_alloc | apply Kd.V_drewN | apply Kd.V_drew)); exact HL231_1.out) gb232 (Nat.le_of_eq hg.symm)) hb); have n3_ := Aside0.mk (Kd.C_below (by repeat (first | (with_reducible exact HR231_1.out) | (with_reducible refine Kd.C_alloc ?_ _) | (with_reducible refine Kd.C_drewN ?_ _) | (with_reducible refine Kd.C_drew ?_) | exact HR231_1.out)) hb); have n4_ := Aside0.mk (below_step (by repeat (first | (with_reducible first | exact HB.out | apply below_alloc | apply pw_below_drewN | apply below_drew1) | exact HB.out)) hb); have n5_ := Aside0.mk (hbox); have n6_ := Aside0.mk ((by rw [hg]; exact (below_size (by repeat (first | (with_reducible first | exact HB.out | apply below_alloc | apply pw_below_drewN | apply below_drew1) | exact HB.out))) : w.heap.size ≤ gb232)); have n7_ := Aside0.mk ((by rw [hg]; exact (below_size (by repeat (first | (with_reducible first | exact HB.out | apply below_alloc | apply pw_below_drewN | apply below_drew1) | exact HB.out))) : w.heap.size ≤ gb232)); clear HO_3; clear HO_7; clear HL231_1; clear HR231_1; clear HB; have HO_3 := n0_; have HO_7 := n1_; have HL231_1 := n2_; have HR231_1 := n3_; have HB := n4_; have BK232 := n5_; have GW232 := n6_; have GE232 := n7_; clear n0_ n1_ n2_ n3_ n4_ n5_ n6_ n7_; clear hb hbox hg; have hcz11_0 : w10.cell? ⟨gb232, 0, none⟩ = some (.int .i64 0) := (blk_cell BK232.out 0).trans rfl; have hcz11_1 : w10.cell? ⟨gb232, 1, none⟩ = some (.slice none 0 0) := (blk_cell BK232.out 1).trans rfl; have hfz11_0 := blk_frozen BK232.out 0; have hfz11_1 := blk_frozen BK232.out 1))
                go_ret
                exact ⟨_, by first | rfl | (simp [errW_none, errW_some] <;> rfl) | (simp only [← hji8]; first | rfl | (simp [errW_none, errW_some] <;> rfl)) | (simp [*, errW_none, errW_some] <;> rfl), by (with_reducible repeat (first | apply Kd.N_alloc | apply Kd.N_drewN | apply Kd.N_drew)); exact Kd.N_mono (Kd.N_far (p := ⟨gb232, 1, none⟩) (Kd.N_far (p := ⟨gb232, 0, none⟩) (Kd.N_mono HO_3.out (fun k_ hk => (⟨hk, hk.2⟩ : _ ∧ k_ ≠ gb232))) (fun _ hk => hk.2) (.int .i64 ((rd_T109 l0 x9_1).f0))) (fun _ hk => hk.2) (.slice A231_1 ((rd_T109 l0 x9_1).f1).length c231_1)) (fun _ hk => hk.1.1), by repeat (first | (with_reducible first | exact HB.out | apply below_alloc | apply pw_below_drewN | apply below_drew1 | refine below_set ?_ GE232.out) | exact HB.out)⟩
              · rw [if_neg c9] at H
                have c9b0 : decide ((ji8) < (((rd_T109 l0 x9_1).f1).length : Int)) = false := decide_eq_false c9
                clear c9
                by_cases c12 : x3_1.length < 4398046511104
                · rw [if_pos c12] at H
                  have LMc12 := Aside0.mk c12
                  clear c12
                  obtain ⟨y233, hy233⟩ : ∃ y_ : List (S109), y_ = (x3_1 ++ [(⟨(rd_T109 l0 x9_1).f0, (rd_T109 l0 x9_1).f1⟩ : S109)]) := ⟨_, rfl⟩
                  replace H : (marigraphlaw09_few.l0 k1 y233 (wrap64 (x4_1 - (((rd_T109 l0 x9_1).f1).length : Int))) l0 (l0.length : Int) (wrap64 (x9_1 + 1))) = some r := by first | (rw [hy233]; with_reducible exact H) | (have H2_ := (Option.bind_some _ _).symm.trans H; rw [hy233]; with_reducible exact H2_) | (have H2_ := (Option.bind_some _ _).symm.trans H; with_reducible exact H2_) | with_reducible exact H | (rw [hy233]; exact H) | exact H
                  have Ny233 := Aside0.mk hy233
                  clear hy233
                  have H' := Aside0.mk H
                  clear H
                  have p231 : 0 ≤ (x9_1 : Int) := of_decide_eq_true (by first | (with_reducible assumption) | assumption)
                  have q231 : x9_1 < (l0.length : Int) := of_decide_eq_true (by first | (with_reducible assumption) | assumption)
                  obtain ⟨ad231, A231_1, c231_1, e231, hx231_0, hx231_1, hl231_1, hi231_1⟩ := at_T109 (Kd.V_reads' HO_7.out).2.2 x9_1 p231 q231
                  cases e231
                  obtain ⟨ce231, hce231, hMe231, hcc231⟩ := Kd.V_get HO_7.out z109 x9_1 p231 (by first | exact q231 | exact of_decide_eq_true (by first | (with_reducible assumption) | assumption) | (have e_ := (Kd.V_reads' HO_7.out).1; omega))
                  obtain ⟨ua231_1, uc231_1, rfl, ul231_1, ge231_1⟩ := k109_openF hMe231
                  have hv231_1 := hcc231 1 _ rfl
                  rw [add_field _ _ 1 (by omega)] at hv231_1
                  replace hv231_1 := Option.some.inj (hv231_1.symm.trans hx231_1)
                  injection hv231_1 with hva_ hvn_ hvc_
                  rw [hva_] at ge231_1
                  rw [hvc_] at ul231_1
                  have HL231_1 := Aside0.mk (show Kd.V k52 52 _ w.heap.size _ _ ((rd_T109 l0 x9_1).f1) from Kd.V_mk ul231_1 ge231_1)
                  clear hva_ hvn_ hvc_ ge231_1 ul231_1
                  clear hcc231 hce231
                  have HR231_1 := Aside0.mk hi231_1
                  have HC231_1 := Aside0.mk hl231_1
                  clear hi231_1 hl231_1
                  replace p231 := eq_true p231
                  replace q231 := eq_true q231
                  go_wp2_with (first | ((with_reducible refine gate_dst (N := 6) rfl ?_); refine box_event ?hg (N := 6) ?hd (cs := #[.int .i64 0, .slice none 0 0]) (t := 109) ?hr ?_; (case hd => rfl); (case hg => rfl); (case hr => first | (go_simp; done) | (go_simp; rfl)); intro gb232 hg w13 hbox hb; have n0_ := Aside0.mk (Kd.N_below (Kd.N_elderB (by (with_reducible repeat (first | apply Kd.N_alloc | apply Kd.N_drewN | apply Kd.N_drew)); exact HO_3.out) gb232 (Nat.le_of_eq hg.symm)) hb); have n1_ := Aside0.mk (Kd.V_below (Kd.V_elderB (by (with_reducible repeat (first | apply Kd.V_alloc | apply Kd.V_drewN | apply Kd.V_drew)); exact HO_7.out) gb232 (Nat.le_of_eq hg.symm)) hb); have n2_ := Aside0.mk (Kd.V_below (Kd.V_elderB (by (with_reducible repeat (first | apply Kd.V_alloc | apply Kd.V_drewN | apply Kd.V_drew)); exact HL231_1.out) gb232 (Nat.le_of_eq hg.symm)) hb); have n3_ := Aside0.mk (Kd.C_below (by repeat (first | (with_reducible exact HR231_1.out) | (with_reducible refine Kd.C_alloc ?_ _) | (with_reducible refine Kd.C_drewN ?_ _) | (with_reducible refine Kd.C_drew ?_) | exact HR231_1.out)) hb); have n4_ := Aside0.mk (below_step (by repeat (first | (with_reducible first | exact HB.out | apply below_alloc | apply pw_below_drewN | apply below_drew1) | exact HB.out)) hb); have n5_ := Aside0.mk (hbox); have n6_ := Aside0.mk ((by rw [hg]; exact (below_size (by repeat (first | (with_reducible first | exact HB.out | apply below_alloc | apply pw_below_drewN | apply below_drew1) | exact HB.out))) : w.heap.size ≤ gb232)); have n7_ := Aside0.mk ((by rw [hg]; exact (below_size (by repeat (first | (with_reducible first | exact HB.out | apply below_alloc | apply pw_below_drewN | apply below_drew1) | exact HB.out))) : w.heap.size ≤ gb232)); clear HO_3; clear HO_7; clear HL231_1; clear HR231_1; clear HB; have HO_3 := n0_; have HO_7 := n1_; have HL231_1 := n2_; have HR231_1 := n3_; have HB := n4_; have BK232 := n5_; have GW232 := n6_; have GE232 := n7_; clear n0_ n1_ n2_ n3_ n4_ n5_ n6_ n7_; clear hb hbox hg; have hcz14_0 : w13.cell? ⟨gb232, 0, none⟩ = some (.int .i64 0) := (blk_cell BK232.out 0).trans rfl; have hcz14_1 : w13.cell? ⟨gb232, 1, none⟩ = some (.slice none 0 0) := (blk_cell BK232.out 1).trans rfl; have hfz14_0 := blk_frozen BK232.out 0; have hfz14_1 := blk_frozen BK232.out 1) | ((with_reducible refine gate_store (t := 109) (p := 6) rfl ?_); refine store_event (t := 109) (p := 6) (v := ?vo_w15) (w1 := ((w13.setCell ⟨gb232, 0, none⟩ (.int .i64 ((rd_T109 l0 x9_1).f0))).setCell ⟨gb232, 1, none⟩ (.slice A231_1 ((rd_T109 l0 x9_1).f1).length c231_1))) ?hg ?ho ?hn ?hr ?_; (case ho => rfl); (case hg => rfl); (case hn => rfl); (case hr => first | (go_simp; done) | (go_simp; rfl)); intro w15 hw; have n0_ : Aside0 (Kd.N k109 109 w15 w.heap.size (fun k_ => (P0_ k_ ∨ w.heap.size ≤ k_) ∧ k_ ≠ gb232) u3 x3_1) := ⟨(by rw [hw]; exact (by (with_reducible repeat (first | apply Kd.N_alloc | apply Kd.N_drewN | apply Kd.N_drew)); exact Kd.N_mono (Kd.N_far (p := ⟨gb232, 1, none⟩) (Kd.N_far (p := ⟨gb232, 0, none⟩) (Kd.N_mono HO_3.out (fun k_ hk => (⟨hk, hk.2⟩ : _ ∧ k_ ≠ gb232))) (fun _ hk => hk.2) (.int .i64 ((rd_T109 l0 x9_1).f0))) (fun _ hk => hk.2) (.slice A231_1 ((rd_T109 l0 x9_1).f1).length c231_1)) (fun _ hk => ⟨hk.1.1, hk.1.2⟩)))⟩; have n1_ : Aside0 (Kd.V k109 109 w15 w.heap.size (fun k_ => (P0_ k_ ∨ w.heap.size ≤ k_) ∧ some k_ ≠ (u3 : Value).ownBlock ∧ k_ ≠ gb232) (.slice (some ad231) l0.length c0) l0) := ⟨(by rw [hw]; exact (by (with_reducible repeat (first | apply Kd.V_alloc | apply Kd.V_drewN | apply Kd.V_drew)); exact Kd.V_mono (Kd.V_far (p := ⟨gb232, 1, none⟩) (Kd.V_far (p := ⟨gb232, 0, none⟩) (Kd.V_mono HO_7.out (fun k_ hk => (⟨hk, hk.2⟩ : _ ∧ k_ ≠ gb232))) (fun _ hk => hk.2) (.int .i64 ((rd_T109 l0 x9_1).f0))) (fun _ hk => hk.2) (.slice A231_1 ((rd_T109 l0 x9_1).f1).length c231_1)) (fun _ hk => ⟨hk.1.1.1, ⟨hk.1.1.2, hk.1.2⟩⟩)))⟩; have n2_ : Aside0 (Kd.V k52 52 w15 w.heap.size (fun k_ => (P0_ k_ ∨ w.heap.size ≤ k_) ∧ some k_ ≠ (u3 : Value).ownBlock ∧ k_ ≠ gb232) (.slice A231_1 ((rd_T109 l0 x9_1).f1).length c231_1) ((rd_T109 l0 x9_1).f1)) := ⟨(by rw [hw]; exact (by (with_reducible repeat (first | apply Kd.V_alloc | apply Kd.V_drewN | apply Kd.V_drew)); exact Kd.V_mono (Kd.V_far (p := ⟨gb232, 1, none⟩) (Kd.V_far (p := ⟨gb232, 0, none⟩) (Kd.V_mono HL231_1.out (fun k_ hk => (⟨hk, hk.2⟩ : _ ∧ k_ ≠ gb232))) (fun _ hk => hk.2) (.int .i64 ((rd_T109 l0 x9_1).f0))) (fun _ hk => hk.2) (.slice A231_1 ((rd_T109 l0 x9_1).f1).length c231_1)) (fun _ hk => ⟨hk.1.1.1, ⟨hk.1.1.2, hk.1.2⟩⟩)))⟩; have n3_ : Aside0 (w15.heap[gb232]? = some (.cells #[.int .i64 ((rd_T109 l0 x9_1).f0), .slice A231_1 ((rd_T109 l0 x9_1).f1).length c231_1] 109 (0, 0))) := ⟨(by rw [hw]; exact (by (with_reducible repeat (first | refine blk_drewN ?_ _ | refine blk_drew ?_ | refine blk_alloc ?_ _)); refine blk_put (cs := #[.int .i64 ((rd_T109 l0 x9_1).f0), .slice none 0 0]) ?_ 1 _ rfl; (with_reducible repeat (first | refine blk_drewN ?_ _ | refine blk_drew ?_ | refine blk_alloc ?_ _)); refine blk_put (cs := #[.int .i64 0, .slice none 0 0]) ?_ 0 _ rfl; (with_reducible repeat (first | refine blk_drewN ?_ _ | refine blk_drew ?_ | refine blk_alloc ?_ _)); exact BK232.out))⟩; have n4_ : Aside0 (Below w.heap.size w w15) := ⟨(by rw [hw]; exact (by repeat (first | (with_reducible first | exact HB.out | apply below_alloc | apply pw_below_drewN | apply below_drew1 | refine below_set ?_ GE232.out) | exact HB.out)))⟩; clear hw; clear HO_3; clear HO_7; clear HL231_1; clear BK232; clear HB; have HO_3 := n0_; have HO_7 := n1_; have HL231_1 := n2_; have BK232 := n3_; have HB := n4_; clear n0_ n1_ n2_ n3_ n4_; have hcz16_0 : w15.cell? ⟨gb232, 0, none⟩ = some (.int .i64 ((rd_T109 l0 x9_1).f0)) := (blk_cell BK232.out 0).trans rfl; have hcz16_1 : w15.cell? ⟨gb232, 1, none⟩ = some (.slice A231_1 ((rd_T109 l0 x9_1).f1).length c231_1) := (blk_cell BK232.out 1).trans rfl; have hfz16_0 := blk_frozen BK232.out 0; have hfz16_1 := blk_frozen BK232.out 1) | ((with_reducible refine gate_builtin (b := .append) (xs := #[.tmp 29, .tmp 31]) rfl ?_); at_builtin; refine Kd.N_append k109 (w0 := w) w.heap.size rfl (.tmp 29) (.tmp 31) 66 109 (.agg #[(.int .i64 0), (.slice none 0 0)]) 32 rfl Try.underlying66 info109 rfl (by decide) (by omega) u3 x3_1 (⟨(rd_T109 l0 x9_1).f0, (rd_T109 l0 x9_1).f1⟩ : S109) [.int .i64 ((rd_T109 l0 x9_1).f0), .slice A231_1 ((rd_T109 l0 x9_1).f1).length c231_1] (fun k_ => (P0_ k_ ∨ w.heap.size ≤ k_) ∧ k_ ≠ gb232) (fun k_ => ((fun k_ => (P0_ k_ ∨ w.heap.size ≤ k_) ∧ k_ ≠ gb232)) k_ ∧ some k_ ≠ (u3 : Value).ownBlock) rfl rfl ?aP (fun _ hk => hk) ?aF ?aO ?aB ?aS ?aL ?_; (case aP => exact (k109_mkF _ _ (⟨(rd_T109 l0 x9_1).f0, (rd_T109 l0 x9_1).f1⟩ : S109) (Kd.V_reads' (Kd.V_mono (ok' := (fun k_ => ((fun k_ => (P0_ k_ ∨ w.heap.size ≤ k_) ∧ k_ ≠ gb232)) k_ ∧ some k_ ≠ (u3 : Value).ownBlock)) (HL231_1.out) (fun k_ hk => ⟨⟨hk.1, hk.2.2⟩, hk.2.1⟩))).2.1 (Kd.V_F (Kd.V_mono (ok' := (fun k_ => ((fun k_ => (P0_ k_ ∨ w.heap.size ≤ k_) ∧ k_ ≠ gb232)) k_ ∧ some k_ ≠ (u3 : Value).ownBlock)) (HL231_1.out) (fun k_ hk => ⟨⟨hk.1, hk.2.2⟩, hk.2.1⟩))))); (case aB => exact (by repeat (first | (with_reducible first | exact HB.out | apply below_alloc | apply pw_below_drewN | apply below_drew1 | refine below_set ?_ GE232.out) | exact HB.out))); (case aF => exact (fun k_ hk => ⟨(.inr (Nat.le_trans (below_size (by repeat (first | (with_reducible first | exact HB.out | apply below_alloc | apply pw_below_drewN | apply below_drew1 | refine below_set ?_ GE232.out) | exact HB.out))) hk)), Kd.freshB (g := gb232) (o := .cells #[.int .i64 ((rd_T109 l0 x9_1).f0), .slice A231_1 ((rd_T109 l0 x9_1).f1).length c231_1] 109 (0, 0)) (by (with_reducible repeat (first | refine blk_drewN ?_ _ | refine blk_drew ?_ | refine blk_alloc ?_ _)); exact BK232.out) k_ hk⟩)); (case aO => exact (by (with_reducible repeat (first | apply Kd.N_alloc | apply Kd.N_drewN | apply Kd.N_drew)); exact HO_3.out)); (case aS => exact (below_size (by repeat (first | (with_reducible first | exact HB.out | apply below_alloc | apply pw_below_drewN | apply below_drew1 | refine below_set ?_ GE232.out) | exact HB.out)))); (case aL => have := LMc12.out; omega); intro v234 w17 ho hb hg hat; rw [← Ny233.out] at ho; have n0_ := Aside0.mk (Kd.V_afterv (ok := (fun k_ => (P0_ k_ ∨ w.heap.size ≤ k_) ∧ k_ ≠ gb232)) (by (with_reducible repeat (first | apply Kd.V_alloc | apply Kd.V_drewN | apply Kd.V_drew)); exact Kd.V_mono HO_7.out (fun _ hk => ⟨⟨hk.1, hk.2.2⟩, hk.2.1⟩)) hg hat); have n1_ := Aside0.mk (Kd.V_afterv (ok := (fun k_ => (P0_ k_ ∨ w.heap.size ≤ k_) ∧ k_ ≠ gb232)) (by (with_reducible repeat (first | apply Kd.V_alloc | apply Kd.V_drewN | apply Kd.V_drew)); exact Kd.V_mono HL231_1.out (fun _ hk => ⟨⟨hk.1, hk.2.2⟩, hk.2.1⟩)) hg hat); have n2_ := Aside0.mk (blk_grown (g := gb232) (o := .cells #[.int .i64 ((rd_T109 l0 x9_1).f0), .slice A231_1 ((rd_T109 l0 x9_1).f1).length c231_1] 109 (0, 0)) (by (with_reducible repeat (first | refine blk_drewN ?_ _ | refine blk_drew ?_ | refine blk_alloc ?_ _)); exact BK232.out) hg (Kd.N_away HO_3.out (fun _ hk => hk.2))); have n3_ := Aside0.mk (hb); have n4_ := Aside0.mk (ho); clear HO_7; clear HL231_1; clear BK232; clear HB; clear HO_3; have HO_7 := n0_; have HL231_1 := n1_; have BK232 := n2_; have HB := n3_; have HO235 := n4_; clear n0_ n1_ n2_ n3_ n4_; clear ho hb hg hat))
                  go_roundg k1
                  case measure => have := HK1.out; omega
                  case rel => exact ⟨(y233), (wrap64 (x4_1 - (((rd_T109 l0 x9_1).f1).length : Int))), (wrap64 (x9_1 + 1)), (by first | rfl | (simp; done) | (simp [*]; done) | (simp <;> grind)), (by first | rfl | (simp; done) | (simp [*]; done) | (simp <;> grind)), (by first | exact H' | (simp only [hji8]; exact H')), ⟨by have := HK1.out; omega⟩, ⟨by (with_reducible repeat (first | apply Kd.N_alloc | apply Kd.N_drewN | apply Kd.N_drew)); exact Kd.N_mono HO235.out (fun _ hk => hk.1)⟩, ⟨by (with_reducible repeat (first | apply Kd.V_alloc | apply Kd.V_drewN | apply Kd.V_drew)); exact Kd.V_mono HO_7.out (fun _ hk => ⟨hk.1.1, hk.2⟩)⟩, ⟨by repeat (first | (with_reducible first | exact HB.out | apply below_alloc | apply pw_below_drewN | apply below_drew1 | refine below_set ?_ GE232.out) | exact HB.out)⟩⟩
                · rw [if_neg c12] at H
                  exact absurd H (by simp)
          · rw [if_neg c4] at H
            exact absurd H (by simp)
        · rw [if_neg c3] at H
          exact absurd H (by simp)
      · rw [if_neg c2] at H
        have c2b0 : decide (x9_1 < (l0.length : Int)) = false := decide_eq_false c2
        clear c2
        obtain rfl := Option.some.inj H
        go_wp2
        go_ret
        exact ⟨_, by first | rfl | (simp [errW_none, errW_some] <;> rfl) | (simp [*, errW_none, errW_some] <;> rfl), by (with_reducible repeat (first | apply Kd.N_alloc | apply Kd.N_drewN | apply Kd.N_drew)); exact HO_3.out, by repeat (first | (with_reducible first | exact HB.out | apply below_alloc | apply pw_below_drewN | apply below_drew1) | exact HB.out)⟩

end Go.Proofs.Ythkpnnbjcendcaa.X

