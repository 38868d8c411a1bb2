-- By xprint.py, out of the translation's own print. Lean checks it.
import Derived.Test.YtckcplmjnpgegaaX0
import Derived.Test.YtckcplmjnpgegaaX3
import Derived.Test.YtckcplmjnpgegaaX5
import Derived.Test.YtckcplmjnpgegaaX6
namespace Go.Proofs.Ytckcplmjnpgegaa.X
open Go.RowKit Go.Proofs.YtckcplmjnpgegaaW.PrintWords Go.Proofs.YtckcplmjnpgegaaW.PrintLast Go.Proofs.YtckcplmjnpgegaaW.PrintMore
attribute [local go_sem] max2_int min2_int max_two min_two max_three min_three max_four min_four   -- for this text's walks alone
set_option linter.unusedVariables false
set_option linter.unusedSimpArgs false

/-! ### marigraphlaw09_BlockCuts: function 3 -/
def marigraphlaw09_BlockCuts.l0 : Nat → Int → Bool → List (S33) → List (S33) → List (S27) → List (S27) → Int → Int → Option (Bool)
  | 0, _, _, _, _, _, _, _, _ => none
  | k + 1, x1, x5, x6, x7, x8, x20, x21, x22 => if x22 < x21 then (if 0 ≤ x22 then (if x22 < (x20.length : Int) then (if ((rd_T27 x20 x22).f0) = 3 then (if (((rd_T27 x20 x22).f1).length : Int) = 0 then (some false) else (if (((rd_T27 x20 x22).f1).length : Int) > (mx x1 1) then (some false) else (if (wrap64 (x22 + 1)) < (x8.length : Int) then (if (((rd_T27 x20 x22).f1).length : Int) = (mx x1 1) then (if x7.length + ((rd_T27 x20 x22).f1).length < 8796093022208 then (marigraphlaw09_BlockCuts.l0 k x1 x5 x6 (x7 ++ ((rd_T27 x20 x22).f1)) x8 x20 x21 (wrap64 (x22 + 1))) else (none)) else (some false)) else (if x7.length + ((rd_T27 x20 x22).f1).length < 8796093022208 then (marigraphlaw09_BlockCuts.l0 k x1 x5 x6 (x7 ++ ((rd_T27 x20 x22).f1)) x8 x20 x21 (wrap64 (x22 + 1))) else (none))))) else (some false)) else (none)) else (none)) else (if x5 = true then ((marigraphref04_Same.f k x7 x6).bind fun t157 => (some t157)) else (some false))
def marigraphlaw09_BlockCuts.f (k : Nat) (l0 : List (S33)) (a1 : Int) : Option (Bool) := (marigraphlaw09_shown.f k).bind fun t141 => (if 0 ≤ (mn (l0.length : Int) 1100) then (if (mn (l0.length : Int) 1100) ≤ (l0.length : Int) then ((some (l0.take ((mn (l0.length : Int) 1100) : Int).toNat : List (S33))).bind fun y142 => ((block_Cut.f k 3 y142 a1).bind fun t146 => (marigraphlaw09_BlockCuts.l0 k a1 t141 y142 ([] : List (S33)) t146 t146 (t146.length : Int) 0))) else (none)) else (none))
theorem marigraphlaw09_BlockCuts.mono_l : ∀ k, (∀ y0 y1 y2 y3 y4 y5 y6 y7, LeO (marigraphlaw09_BlockCuts.l0 k y0 y1 y2 y3 y4 y5 y6 y7) (marigraphlaw09_BlockCuts.l0 (k + 1) y0 y1 y2 y3 y4 y5 y6 y7))
  | 0 => fun _ _ _ _ _ _ _ _ r h => by simp [marigraphlaw09_BlockCuts.l0] at h
  | k + 1 => by
    have ih0 := marigraphlaw09_BlockCuts.mono_l k
    · intro y0 y1 y2 y3 y4 y5 y6 y7
      unfold marigraphlaw09_BlockCuts.l0
      repeat' first
      | (with_reducible exact ih0 _ _ _ _ _ _ _ _)
      | (with_reducible exact block_Cut.mono _ _ _ _)
      | (with_reducible exact marigraphlaw09_shown.mono _)
      | (with_reducible exact marigraphref04_Same.mono _ _ _)
      | (with_reducible exact LeO.refl _)
      | (with_reducible exact LeO.none _)
      | (with_reducible refine LeO.ite ?_ ?_)
      | (with_reducible refine LeO.bind ?_ (fun _ => ?_))
      | exact ih0 _ _ _ _ _ _ _ _
      | exact block_Cut.mono _ _ _ _
      | exact marigraphlaw09_shown.mono _
      | exact marigraphref04_Same.mono _ _ _
      | exact LeO.none _
      | refine LeO.ite ?_ ?_
      | refine LeO.bind ?_ (fun _ => ?_)
theorem marigraphlaw09_BlockCuts.mono : ∀ a0 a1 k, LeO (marigraphlaw09_BlockCuts.f k a0 a1) (marigraphlaw09_BlockCuts.f (k + 1) a0 a1) := by
  intro a0 a1 k
  have ih0 := marigraphlaw09_BlockCuts.mono_l k
  unfold marigraphlaw09_BlockCuts.f
  repeat' first
      | (with_reducible exact ih0 _ _ _ _ _ _ _ _)
      | (with_reducible exact block_Cut.mono _ _ _ _)
      | (with_reducible exact marigraphlaw09_shown.mono _)
      | (with_reducible exact marigraphref04_Same.mono _ _ _)
      | (with_reducible exact LeO.refl _)
      | (with_reducible exact LeO.none _)
      | (with_reducible refine LeO.ite ?_ ?_)
      | (with_reducible refine LeO.bind ?_ (fun _ => ?_))
      | exact ih0 _ _ _ _ _ _ _ _
      | exact block_Cut.mono _ _ _ _
      | exact marigraphlaw09_shown.mono _
      | exact marigraphref04_Same.mono _ _ _
      | exact LeO.none _
      | refine LeO.ite ?_ ?_
      | refine LeO.bind ?_ (fun _ => ?_)
set_option maxHeartbeats 8000000 in
set_option maxRecDepth 100000 in
theorem marigraphlaw09_BlockCuts.calls (k : Nat) (A0 : Option Addr) (c0 : Nat) (l0 : List (S33)) (a1 : Int) (r : Bool) (w : World) (hr0 : Kd.C k33 w A0 l0.length l0) (hc0 : l0.length ≤ c0) (h : marigraphlaw09_BlockCuts.f k l0 a1 = some r) :
    Calls Try.prog 3 #[.slice A0 l0.length c0, .int .i64 a1] w fun e w' => e = .returned (.bool r) ∧ Below w.heap.size w w' := by
  have hu27 := Try.underlying27
  have HR0 := Aside0.mk hr0
  have HC0 := Aside0.mk hc0
  clear hr0 hc0
  have HB := Aside0.mk (Below.refl w.heap.size w)
  have H : ((marigraphlaw09_shown.f k).bind fun t141 => (if 0 ≤ (mn (l0.length : Int) 1100) then (if (mn (l0.length : Int) 1100) ≤ (l0.length : Int) then ((some (l0.take ((mn (l0.length : Int) 1100) : Int).toNat : List (S33))).bind fun y142 => ((block_Cut.f k 3 y142 a1).bind fun t146 => (marigraphlaw09_BlockCuts.l0 k a1 t141 y142 ([] : List (S33)) t146 t146 (t146.length : Int) 0))) else (none)) else (none))) = some r := h
  clear h
  replace H := Option.bind_eq_some_iff.mp H
  obtain ⟨t141, A30, H⟩ := H
  replace H : (if 0 ≤ (mn (l0.length : Int) 1100) then (if (mn (l0.length : Int) 1100) ≤ (l0.length : Int) then ((some (l0.take ((mn (l0.length : Int) 1100) : Int).toNat : List (S33))).bind fun y142 => ((block_Cut.f k 3 y142 a1).bind fun t146 => (marigraphlaw09_BlockCuts.l0 k a1 t141 y142 ([] : List (S33)) t146 t146 (t146.length : Int) 0))) else (none)) else (none)) = some r := H
  have A3 := Aside0.mk A30
  clear A30
  obtain ⟨ji4, hji4⟩ : ∃ j_ : Int, (mn (l0.length : Int) 1100) = j_ := ⟨_, rfl⟩
  replace H : (if 0 ≤ (ji4) then (if (ji4) ≤ (l0.length : Int) then ((some (l0.take ((ji4) : Int).toNat : List (S33))).bind fun y142 => ((block_Cut.f k 3 y142 a1).bind fun t146 => (marigraphlaw09_BlockCuts.l0 k a1 t141 y142 ([] : List (S33)) t146 t146 (t146.length : Int) 0))) else (none)) else (none)) = some r := by first | (rw [hji4] at H; exact H) | (simp only [hji4] at H ⊢; exact H)
  (try rw [hji4] at A3)
  (try (have hji4h : ji4 ≤ 1100 := by (rw [← hji4]; unfold mn; (repeat' split) <;> omega)))
  (try (have hji4g : ji4 ≤ 64 := by omega))
  (try (have hji4l : 0 ≤ ji4 := by (rw [← hji4]; unfold mn; (repeat' split) <;> omega)))
  (try (have hji4m : 0 ≤ ji4 := by omega))
  have hji4_ : (if 1100 < (l0.length : Int) then 1100 else (l0.length : Int)) = ji4 := hji4
  by_cases c5 : 0 ≤ (ji4)
  · rw [if_pos c5] at H
    have c5b0 := eq_true c5
    have c5b1 : decide (0 ≤ (ji4)) = true := decide_eq_true c5
    clear c5
    by_cases c6 : (ji4) ≤ (l0.length : Int)
    · rw [if_pos c6] at H
      have c6b0 := eq_true c6
      have c6b1 : decide ((ji4) ≤ (l0.length : Int)) = true := decide_eq_true c6
      clear c6
      obtain ⟨y142, hy142⟩ : ∃ y_ : List (S33), y_ = (l0.take ((ji4) : Int).toNat) := ⟨_, rfl⟩
      replace H : ((block_Cut.f k 3 y142 a1).bind fun t146 => (marigraphlaw09_BlockCuts.l0 k a1 t141 y142 ([] : List (S33)) t146 t146 (t146.length : Int) 0)) = some r := by first | (rw [hy142]; with_reducible exact H) | (have H2_ := (Option.bind_some _ _).symm.trans H; rw [hy142]; with_reducible exact H2_) | (have H2_ := (Option.bind_some _ _).symm.trans H; with_reducible exact H2_) | with_reducible exact H | (rw [hy142]; exact H) | exact H
      have Ny142 := Aside0.mk hy142
      clear hy142
      replace H := Option.bind_eq_some_iff.mp H
      obtain ⟨t146, A70, H⟩ := H
      replace H : (marigraphlaw09_BlockCuts.l0 k a1 t141 y142 ([] : List (S33)) t146 t146 (t146.length : Int) 0) = some r := H
      have A7 := Aside0.mk A70
      clear A70
      have H' := Aside0.mk H
      clear H
      go_enter Try.func3, Try.ntmps3
      go_wp2_with (first | ((with_reducible refine gate_callee (f := 11) rfl ?_); refine goesL_ (some 11) rfl rfl Try.func11 (by kernel_rfl) rfl #[] rfl (by (try simp only [List.map_toArray, List.map_cons, List.map_nil]); first | done | rfl | (simp only [List.length_drop, List.length_take]; rfl)) ?_; (with_reducible refine (marigraphlaw09_shown.calls k  t141 _ A3.out).mono ?_); rintro e w8 ⟨rfl, hb⟩; refine ⟨_, rfl, ?_⟩; have n0_ := Aside0.mk (below_step (by repeat (first | (with_reducible first | exact HB.out | apply below_alloc | apply pw_below_drewN | apply below_drew1) | exact HB.out)) hb); clear HB; have HB := n0_; clear n0_; (try clear hb); (try clear hb2); (try clear hk); (try clear hi); have q9 : ((ji4) : Int) ≤ ((l0.length : Int) : Int) := of_decide_eq_true (by first | (with_reducible assumption) | assumption); obtain ⟨i09, hi09, _, hsz9, _⟩ := info_parts info33; have hroom9 : l0.length ≤ c0 := HC0.out; have hC9 : Kd.C k33 _ A0 l0.length l0 := HR0.out; have hcut9 := cut_to (P := Try.prog) 22 33 .i64 Try.underlying22 hi09 A0 l0.length c0 (ji4) (of_decide_eq_true (by first | (with_reducible assumption) | assumption)) q9 hroom9; have hr9 := Kd.C_take (m := ((ji4) : Int).toNat) hC9 (by omega); have hy9 : y142.length = ((ji4) : Int).toNat := (by rw [Ny142.out, List.length_take]; omega); rw [← Ny142.out] at hr9; rw [← hy9] at hcut9; have HR145 := Aside0.mk hr9; have HC145 := Aside0.mk (show y142.length ≤ c0 from by omega); clear hr9 hC9 hroom9 hi09 hsz9; have KY9 := Aside0.mk hy9; clear hy9; replace q9 := eq_true q9) | ((with_reducible refine gate_callee (f := 12) rfl ?_); refine goesL_ (some 19) rfl rfl Try.func12 (by kernel_rfl) rfl #[.int .i64 3, .slice A0 y142.length c0, .int .i64 a1] rfl (by (try simp only [List.map_toArray, List.map_cons, List.map_nil]); first | done | rfl | (simp only [List.length_drop, List.length_take]; rfl)) ?_; (with_reducible refine (block_Cut.calls k 3 (fun k_ => k_ < w.heap.size) _ _ y142 a1 t146 _ ?side1 A7.out).mono ?_); (case side1 => exact Kd.V_mk HC145.out (Kd.F_below (Kd.C_F k33_heap HR145.out) (by repeat (first | (with_reducible first | exact HB.out | apply below_alloc | apply pw_below_drewN | apply below_drew1) | exact HB.out)))); rintro e w10 ⟨v147, rfl, ho0, hb⟩; refine ⟨_, rfl, ?_⟩; have n0_ := Aside0.mk (Kd.S_lower (Kd.S_mono (ok' := fun k_ => True) ho0 (fun _ hk_ => trivial)) (below_size (by repeat (first | (with_reducible first | exact HB.out | apply below_alloc | apply pw_below_drewN | apply below_drew1) | exact HB.out)))); have n1_ := Aside0.mk (below_step (by repeat (first | (with_reducible first | exact HB.out | apply below_alloc | apply pw_below_drewN | apply below_drew1) | exact HB.out)) hb); clear HB; have HO148 := n0_; have HB := n1_; clear n0_ n1_; (try clear hb); (try clear hb2); (try clear hk); (try clear hi); (try clear ho0); obtain ⟨Ao11, co11, eo11⟩ := Kd.S_slice HO148.out; subst eo11))
      go_loopg [7, 22] k (fun kq v7 v22 w' => ∃ (x7_1 : List (S33)) (x22_1 : Int), v22 = .int .i64 x22_1 ∧ Aside0 (marigraphlaw09_BlockCuts.l0 kq a1 t141 y142 x7_1 t146 t146 (t146.length : Int) x22_1 = some r) ∧ Aside0 (kq ≤ k) ∧ Aside0 (Kd.R k33 33 w' w.heap.size (fun _ => True) v7 x7_1) ∧ Aside0 (Kd.S k27 27 w' w.heap.size (fun k_ => some k_ ≠ (v7 : Value).ownBlock) (.slice Ao11 t146.length co11) t146) ∧ Aside0 (Kd.S k27 27 w' w.heap.size (fun k_ => some k_ ≠ (v7 : Value).ownBlock) (.slice Ao11 t146.length co11) t146) ∧ Aside0 (Below w.heap.size w w'))
      case atStart => exact ⟨(([] : List (S33))), (0), (by first | rfl | (simp; done) | (simp [*]; done) | (simp <;> grind)), H', ⟨Nat.le_refl _⟩, ⟨by first | exact Kd.R_nil _ _ _ _ _ | exact Kd.N_nil _ _ _ _ _ | exact Kd.V_nil _ _ _ _ _ | exact Kd.Q_nil _ _ _ _ _ | exact Kd.S_nil _ _ _ _ _⟩, ⟨by (with_reducible repeat (first | apply Kd.S_alloc | apply Kd.S_drewN | apply Kd.S_drew)); exact Kd.S_mono HO148.out (fun _ hk => (by simp [Value.ownBlock]))⟩, ⟨by (with_reducible repeat (first | apply Kd.S_alloc | apply Kd.S_drewN | apply Kd.S_drew)); exact Kd.S_mono HO148.out (fun _ hk => (by simp [Value.ownBlock]))⟩, ⟨by repeat (first | (with_reducible first | exact HB.out | apply below_alloc | apply pw_below_drewN | apply below_drew1) | exact HB.out)⟩⟩
      case round =>
        clear H'
        try clear c1
        try clear p2
        try clear c3
        try clear c5
        try clear c5b0
        try clear c5b1
        try clear c6
        try clear c6b0
        try clear c6b1
        try clear q9
        try clear c11
        try clear q9
        obtain ⟨x7_1, x22_1, rfl, HA, HK1, HO_7, HO_8, HO_20, HB⟩ := hrel
        cases gk with
        | zero => exact absurd HA.out (by simp [marigraphlaw09_BlockCuts.l0])
        | succ k1 =>
          have H := HA.out
          clear HA
          simp only [marigraphlaw09_BlockCuts.l0] at H
          by_cases c12 : x22_1 < (t146.length : Int)
          · rw [if_pos c12] at H
            have c12b0 : decide (x22_1 < (t146.length : Int)) = true := decide_eq_true c12
            clear c12
            by_cases c13 : 0 ≤ x22_1
            · rw [if_pos c13] at H
              have c13b0 : decide (0 ≤ x22_1) = true := decide_eq_true c13
              clear c13
              by_cases c14 : x22_1 < (t146.length : Int)
              · rw [if_pos c14] at H
                have c14b0 : decide (x22_1 < (t146.length : Int)) = true := decide_eq_true c14
                clear c14
                by_cases c15 : ((rd_T27 t146 x22_1).f0) = 3
                · rw [if_pos c15] at H
                  have c15b0 : (((rd_T27 t146 x22_1).f0) == 3) = true := beq_iff_eq.mpr c15
                  have c15b1 : (((rd_T27 t146 x22_1).f0) != 3) = false := bne_eq_false_iff_eq.mpr c15
                  clear c15
                  by_cases c16 : (((rd_T27 t146 x22_1).f1).length : Int) = 0
                  · rw [if_pos c16] at H
                    have c16b0 : ((((rd_T27 t146 x22_1).f1).length : Int) == 0) = true := beq_iff_eq.mpr c16
                    have c16b1 : ((((rd_T27 t146 x22_1).f1).length : Int) != 0) = false := bne_eq_false_iff_eq.mpr c16
                    clear c16
                    obtain rfl := Option.some.inj H
                    have p149 : 0 ≤ (x22_1 : Int) := of_decide_eq_true (by first | (with_reducible assumption) | assumption)
                    have q149 : x22_1 < (t146.length : Int) := of_decide_eq_true (by first | (with_reducible assumption) | assumption)
                    obtain ⟨ad149, A149_1, c149_1, e149, hx149_0, hx149_1, hl149_1, hi149_1⟩ := at_T27 (Kd.S_reads' HO_20.out).2.2 x22_1 p149 q149
                    cases e149
                    obtain ⟨ce149, hce149, hMe149, hcc149⟩ := Kd.S_get HO_20.out z27 x22_1 p149 (by first | exact q149 | exact of_decide_eq_true (by first | (with_reducible assumption) | assumption) | (have e_ := (Kd.S_reads' HO_20.out).1; omega))
                    obtain ⟨ve149_1, rfl, ge149_1⟩ := k27_openM hMe149
                    have hv149_1 := hcc149 1 _ rfl
                    rw [add_field _ _ 1 (by omega)] at hv149_1
                    replace hv149_1 := Option.some.inj (hv149_1.symm.trans hx149_1)
                    rw [hv149_1] at ge149_1
                    have HL149_1 := Aside0.mk (show Kd.R k33 33 _ _ _ _ ((rd_T27 t146 x22_1).f1) from ge149_1)
                    clear hv149_1 ge149_1
                    clear hcc149 hce149
                    have HR149_1 := Aside0.mk hi149_1
                    have HC149_1 := Aside0.mk hl149_1
                    clear hi149_1 hl149_1
                    replace p149 := eq_true p149
                    replace q149 := eq_true q149
                    go_wp2_with (first | ((with_reducible refine gate_dst (N := 10) rfl ?_); (try (refine gate_guard (by rfl) ?_; dsimp only)); refine box_event ?hg (N := 10) ?hd (cs := #[.int .i64 0, .slice none 0 0]) (t := 27) ?hr ?_; (case hd => rfl); (case hg => rfl); (case hr => first | (go_simp; done) | (go_simp; rfl)); intro gb150 hg w17 hbox hb; have n0_ := Aside0.mk (Kd.R_below (by (with_reducible repeat (first | apply Kd.R_alloc | apply Kd.R_drewN | apply Kd.R_drew)); exact HO_7.out) hb); have n1_ := Aside0.mk (Kd.S_below (Kd.S_elderB (by (with_reducible repeat (first | apply Kd.S_alloc | apply Kd.S_drewN | apply Kd.S_drew)); exact HO_8.out) gb150 (Nat.le_of_eq hg.symm)) hb); have n2_ := Aside0.mk (Kd.S_below (Kd.S_elderB (by (with_reducible repeat (first | apply Kd.S_alloc | apply Kd.S_drewN | apply Kd.S_drew)); exact HO_20.out) gb150 (Nat.le_of_eq hg.symm)) hb); have n3_ := Aside0.mk (Kd.R_below (by (with_reducible repeat (first | apply Kd.R_alloc | apply Kd.R_drewN | apply Kd.R_drew)); exact HL149_1.out) hb); have n4_ := Aside0.mk (Kd.C_below (by repeat (first | (with_reducible exact HR149_1.out) | (with_reducible refine Kd.C_alloc ?_ _) | (with_reducible refine Kd.C_drewN ?_ _) | (with_reducible refine Kd.C_drew ?_) | exact HR149_1.out)) hb); have n5_ := Aside0.mk (below_step (by repeat (first | (with_reducible first | exact HB.out | apply below_alloc | apply pw_below_drewN | apply below_drew1) | exact HB.out)) hb); have n6_ := Aside0.mk (hbox); have n7_ := Aside0.mk ((by rw [hg]; exact (below_size (by repeat (first | (with_reducible first | exact HB.out | apply below_alloc | apply pw_below_drewN | apply below_drew1) | exact HB.out))) : w.heap.size ≤ gb150)); have n8_ := Aside0.mk ((by rw [hg]; exact (below_size (by repeat (first | (with_reducible first | exact HB.out | apply below_alloc | apply pw_below_drewN | apply below_drew1) | exact HB.out))) : w.heap.size ≤ gb150)); clear HO_7; clear HO_8; clear HO_20; clear HL149_1; clear HR149_1; clear HB; have HO_7 := n0_; have HO_8 := n1_; have HO_20 := n2_; have HL149_1 := n3_; have HR149_1 := n4_; have HB := n5_; have BK150 := n6_; have GW150 := n7_; have GE150 := n8_; clear n0_ n1_ n2_ n3_ n4_ n5_ n6_ n7_ n8_; clear hb hbox hg; have hcz18_0 : w17.cell? ⟨gb150, 0, none⟩ = some (.int .i64 0) := (blk_cell BK150.out 0).trans rfl; have hcz18_1 : w17.cell? ⟨gb150, 1, none⟩ = some (.slice none 0 0) := (blk_cell BK150.out 1).trans rfl; have hfz18_0 := blk_frozen BK150.out 0; have hfz18_1 := blk_frozen BK150.out 1))
                    go_ret
                    exact ⟨by first | rfl | (simp [errW_none, errW_some] <;> rfl) | (simp only [← hji4]; first | rfl | (simp [errW_none, errW_some] <;> rfl)) | (simp [*, errW_none, errW_some] <;> rfl), by repeat (first | (with_reducible first | exact HB.out | apply below_alloc | apply pw_below_drewN | apply below_drew1 | refine below_set ?_ GE150.out) | exact HB.out)⟩
                  · rw [if_neg c16] at H
                    have c16b0 : ((((rd_T27 t146 x22_1).f1).length : Int) == 0) = false := beq_eq_false_iff_ne.mpr c16
                    have c16b1 : ((((rd_T27 t146 x22_1).f1).length : Int) != 0) = true := bne_iff_ne.mpr c16
                    have c16b2 : ¬ (((rd_T27 t146 x22_1).f1) = []) := fun h_ => c16 (by rw [h_]; rfl)
                    obtain ⟨ji19, hji19⟩ : ∃ j_ : Int, (mx a1 1) = j_ := ⟨_, rfl⟩
                    replace H : (if (((rd_T27 t146 x22_1).f1).length : Int) > (ji19) then (some false) else (if (wrap64 (x22_1 + 1)) < (t146.length : Int) then (if (((rd_T27 t146 x22_1).f1).length : Int) = (ji19) then (if x7_1.length + ((rd_T27 t146 x22_1).f1).length < 8796093022208 then (marigraphlaw09_BlockCuts.l0 k1 a1 t141 y142 (x7_1 ++ ((rd_T27 t146 x22_1).f1)) t146 t146 (t146.length : Int) (wrap64 (x22_1 + 1))) else (none)) else (some false)) else (if x7_1.length + ((rd_T27 t146 x22_1).f1).length < 8796093022208 then (marigraphlaw09_BlockCuts.l0 k1 a1 t141 y142 (x7_1 ++ ((rd_T27 t146 x22_1).f1)) t146 t146 (t146.length : Int) (wrap64 (x22_1 + 1))) else (none)))) = some r := by first | (rw [hji19] at H; exact H) | (simp only [hji19] at H ⊢; exact H)
                    have hji19_ : (if a1 < 1 then 1 else a1) = ji19 := hji19
                    by_cases c20 : (((rd_T27 t146 x22_1).f1).length : Int) > (ji19)
                    · rw [if_pos c20] at H
                      have c20b0 : decide ((ji19) < (((rd_T27 t146 x22_1).f1).length : Int)) = true := decide_eq_true c20
                      clear c20
                      obtain rfl := Option.some.inj H
                      have p149 : 0 ≤ (x22_1 : Int) := of_decide_eq_true (by first | (with_reducible assumption) | assumption)
                      have q149 : x22_1 < (t146.length : Int) := of_decide_eq_true (by first | (with_reducible assumption) | assumption)
                      obtain ⟨ad149, A149_1, c149_1, e149, hx149_0, hx149_1, hl149_1, hi149_1⟩ := at_T27 (Kd.S_reads' HO_20.out).2.2 x22_1 p149 q149
                      cases e149
                      obtain ⟨ce149, hce149, hMe149, hcc149⟩ := Kd.S_get HO_20.out z27 x22_1 p149 (by first | exact q149 | exact of_decide_eq_true (by first | (with_reducible assumption) | assumption) | (have e_ := (Kd.S_reads' HO_20.out).1; omega))
                      obtain ⟨ve149_1, rfl, ge149_1⟩ := k27_openM hMe149
                      have hv149_1 := hcc149 1 _ rfl
                      rw [add_field _ _ 1 (by omega)] at hv149_1
                      replace hv149_1 := Option.some.inj (hv149_1.symm.trans hx149_1)
                      rw [hv149_1] at ge149_1
                      have HL149_1 := Aside0.mk (show Kd.R k33 33 _ _ _ _ ((rd_T27 t146 x22_1).f1) from ge149_1)
                      clear hv149_1 ge149_1
                      clear hcc149 hce149
                      have HR149_1 := Aside0.mk hi149_1
                      have HC149_1 := Aside0.mk hl149_1
                      clear hi149_1 hl149_1
                      replace p149 := eq_true p149
                      replace q149 := eq_true q149
                      go_wp2_with (first | ((with_reducible refine gate_dst (N := 10) rfl ?_); (try (refine gate_guard (by rfl) ?_; dsimp only)); refine box_event ?hg (N := 10) ?hd (cs := #[.int .i64 0, .slice none 0 0]) (t := 27) ?hr ?_; (case hd => rfl); (case hg => rfl); (case hr => first | (go_simp; done) | (go_simp; rfl)); intro gb150 hg w21 hbox hb; have n0_ := Aside0.mk (Kd.R_below (by (with_reducible repeat (first | apply Kd.R_alloc | apply Kd.R_drewN | apply Kd.R_drew)); exact HO_7.out) hb); have n1_ := Aside0.mk (Kd.S_below (Kd.S_elderB (by (with_reducible repeat (first | apply Kd.S_alloc | apply Kd.S_drewN | apply Kd.S_drew)); exact HO_8.out) gb150 (Nat.le_of_eq hg.symm)) hb); have n2_ := Aside0.mk (Kd.S_below (Kd.S_elderB (by (with_reducible repeat (first | apply Kd.S_alloc | apply Kd.S_drewN | apply Kd.S_drew)); exact HO_20.out) gb150 (Nat.le_of_eq hg.symm)) hb); have n3_ := Aside0.mk (Kd.R_below (by (with_reducible repeat (first | apply Kd.R_alloc | apply Kd.R_drewN | apply Kd.R_drew)); exact HL149_1.out) hb); have n4_ := Aside0.mk (Kd.C_below (by repeat (first | (with_reducible exact HR149_1.out) | (with_reducible refine Kd.C_alloc ?_ _) | (with_reducible refine Kd.C_drewN ?_ _) | (with_reducible refine Kd.C_drew ?_) | exact HR149_1.out)) hb); have n5_ := Aside0.mk (below_step (by repeat (first | (with_reducible first | exact HB.out | apply below_alloc | apply pw_below_drewN | apply below_drew1) | exact HB.out)) hb); have n6_ := Aside0.mk (hbox); have n7_ := Aside0.mk ((by rw [hg]; exact (below_size (by repeat (first | (with_reducible first | exact HB.out | apply below_alloc | apply pw_below_drewN | apply below_drew1) | exact HB.out))) : w.heap.size ≤ gb150)); have n8_ := Aside0.mk ((by rw [hg]; exact (below_size (by repeat (first | (with_reducible first | exact HB.out | apply below_alloc | apply pw_below_drewN | apply below_drew1) | exact HB.out))) : w.heap.size ≤ gb150)); clear HO_7; clear HO_8; clear HO_20; clear HL149_1; clear HR149_1; clear HB; have HO_7 := n0_; have HO_8 := n1_; have HO_20 := n2_; have HL149_1 := n3_; have HR149_1 := n4_; have HB := n5_; have BK150 := n6_; have GW150 := n7_; have GE150 := n8_; clear n0_ n1_ n2_ n3_ n4_ n5_ n6_ n7_ n8_; clear hb hbox hg; have hcz22_0 : w21.cell? ⟨gb150, 0, none⟩ = some (.int .i64 0) := (blk_cell BK150.out 0).trans rfl; have hcz22_1 : w21.cell? ⟨gb150, 1, none⟩ = some (.slice none 0 0) := (blk_cell BK150.out 1).trans rfl; have hfz22_0 := blk_frozen BK150.out 0; have hfz22_1 := blk_frozen BK150.out 1))
                      go_ret
                      exact ⟨by first | rfl | (simp [errW_none, errW_some] <;> rfl) | (simp only [← hji4, ← hji19]; first | rfl | (simp [errW_none, errW_some] <;> rfl)) | (simp [*, errW_none, errW_some] <;> rfl), by repeat (first | (with_reducible first | exact HB.out | apply below_alloc | apply pw_below_drewN | apply below_drew1 | refine below_set ?_ GE150.out) | exact HB.out)⟩
                    · rw [if_neg c20] at H
                      have c20b0 : decide ((ji19) < (((rd_T27 t146 x22_1).f1).length : Int)) = false := decide_eq_false c20
                      clear c20
                      by_cases c23 : (wrap64 (x22_1 + 1)) < (t146.length : Int)
                      · rw [if_pos c23] at H
                        have c23b0 : decide ((wrap64 (x22_1 + 1)) < (t146.length : Int)) = true := decide_eq_true c23
                        clear c23
                        by_cases c24 : (((rd_T27 t146 x22_1).f1).length : Int) = (ji19)
                        · rw [if_pos c24] at H
                          have c24b0 : ((((rd_T27 t146 x22_1).f1).length : Int) == (ji19)) = true := beq_iff_eq.mpr c24
                          have c24b1 : ((((rd_T27 t146 x22_1).f1).length : Int) != (ji19)) = false := bne_eq_false_iff_eq.mpr c24
                          clear c24
                          by_cases c25 : x7_1.length + ((rd_T27 t146 x22_1).f1).length < 8796093022208
                          · rw [if_pos c25] at H
                            have LMc25 := Aside0.mk c25
                            clear c25
                            obtain ⟨y151, hy151⟩ : ∃ y_ : List (S33), y_ = (x7_1 ++ ((rd_T27 t146 x22_1).f1)) := ⟨_, rfl⟩
                            replace H : (marigraphlaw09_BlockCuts.l0 k1 a1 t141 y142 y151 t146 t146 (t146.length : Int) (wrap64 (x22_1 + 1))) = some r := by first | (rw [hy151]; with_reducible exact H) | (have H2_ := (Option.bind_some _ _).symm.trans H; rw [hy151]; with_reducible exact H2_) | (have H2_ := (Option.bind_some _ _).symm.trans H; with_reducible exact H2_) | with_reducible exact H | (rw [hy151]; exact H) | exact H
                            have Ny151 := Aside0.mk hy151
                            clear hy151
                            have H' := Aside0.mk H
                            clear H
                            have p149 : 0 ≤ (x22_1 : Int) := of_decide_eq_true (by first | (with_reducible assumption) | assumption)
                            have q149 : x22_1 < (t146.length : Int) := of_decide_eq_true (by first | (with_reducible assumption) | assumption)
                            obtain ⟨ad149, A149_1, c149_1, e149, hx149_0, hx149_1, hl149_1, hi149_1⟩ := at_T27 (Kd.S_reads' HO_20.out).2.2 x22_1 p149 q149
                            cases e149
                            obtain ⟨ce149, hce149, hMe149, hcc149⟩ := Kd.S_get HO_20.out z27 x22_1 p149 (by first | exact q149 | exact of_decide_eq_true (by first | (with_reducible assumption) | assumption) | (have e_ := (Kd.S_reads' HO_20.out).1; omega))
                            obtain ⟨ve149_1, rfl, ge149_1⟩ := k27_openM hMe149
                            have hv149_1 := hcc149 1 _ rfl
                            rw [add_field _ _ 1 (by omega)] at hv149_1
                            replace hv149_1 := Option.some.inj (hv149_1.symm.trans hx149_1)
                            rw [hv149_1] at ge149_1
                            have HL149_1 := Aside0.mk (show Kd.R k33 33 _ _ _ _ ((rd_T27 t146 x22_1).f1) from ge149_1)
                            clear hv149_1 ge149_1
                            clear hcc149 hce149
                            have HR149_1 := Aside0.mk hi149_1
                            have HC149_1 := Aside0.mk hl149_1
                            clear hi149_1 hl149_1
                            replace p149 := eq_true p149
                            replace q149 := eq_true q149
                            go_wp2_with (first | ((with_reducible refine gate_dst (N := 10) rfl ?_); (try (refine gate_guard (by rfl) ?_; dsimp only)); refine box_event ?hg (N := 10) ?hd (cs := #[.int .i64 0, .slice none 0 0]) (t := 27) ?hr ?_; (case hd => rfl); (case hg => rfl); (case hr => first | (go_simp; done) | (go_simp; rfl)); intro gb150 hg w26 hbox hb; have n0_ := Aside0.mk (Kd.R_below (by (with_reducible repeat (first | apply Kd.R_alloc | apply Kd.R_drewN | apply Kd.R_drew)); exact HO_7.out) hb); have n1_ := Aside0.mk (Kd.S_below (Kd.S_elderB (by (with_reducible repeat (first | apply Kd.S_alloc | apply Kd.S_drewN | apply Kd.S_drew)); exact HO_8.out) gb150 (Nat.le_of_eq hg.symm)) hb); have n2_ := Aside0.mk (Kd.S_below (Kd.S_elderB (by (with_reducible repeat (first | apply Kd.S_alloc | apply Kd.S_drewN | apply Kd.S_drew)); exact HO_20.out) gb150 (Nat.le_of_eq hg.symm)) hb); have n3_ := Aside0.mk (Kd.R_below (by (with_reducible repeat (first | apply Kd.R_alloc | apply Kd.R_drewN | apply Kd.R_drew)); exact HL149_1.out) hb); have n4_ := Aside0.mk (Kd.C_below (by repeat (first | (with_reducible exact HR149_1.out) | (with_reducible refine Kd.C_alloc ?_ _) | (with_reducible refine Kd.C_drewN ?_ _) | (with_reducible refine Kd.C_drew ?_) | exact HR149_1.out)) hb); have n5_ := Aside0.mk (below_step (by repeat (first | (with_reducible first | exact HB.out | apply below_alloc | apply pw_below_drewN | apply below_drew1) | exact HB.out)) hb); have n6_ := Aside0.mk (hbox); have n7_ := Aside0.mk ((by rw [hg]; exact (below_size (by repeat (first | (with_reducible first | exact HB.out | apply below_alloc | apply pw_below_drewN | apply below_drew1) | exact HB.out))) : w.heap.size ≤ gb150)); have n8_ := Aside0.mk ((by rw [hg]; exact (below_size (by repeat (first | (with_reducible first | exact HB.out | apply below_alloc | apply pw_below_drewN | apply below_drew1) | exact HB.out))) : w.heap.size ≤ gb150)); clear HO_7; clear HO_8; clear HO_20; clear HL149_1; clear HR149_1; clear HB; have HO_7 := n0_; have HO_8 := n1_; have HO_20 := n2_; have HL149_1 := n3_; have HR149_1 := n4_; have HB := n5_; have BK150 := n6_; have GW150 := n7_; have GE150 := n8_; clear n0_ n1_ n2_ n3_ n4_ n5_ n6_ n7_ n8_; clear hb hbox hg; have hcz27_0 : w26.cell? ⟨gb150, 0, none⟩ = some (.int .i64 0) := (blk_cell BK150.out 0).trans rfl; have hcz27_1 : w26.cell? ⟨gb150, 1, none⟩ = some (.slice none 0 0) := (blk_cell BK150.out 1).trans rfl; have hfz27_0 := blk_frozen BK150.out 0; have hfz27_1 := blk_frozen BK150.out 1) | ((with_reducible refine gate_builtin (b := .append) (xs := #[.tmp 59, .tmp 61]) rfl ?_); (try (refine gate_guard (by rfl) ?_; dsimp only)); at_builtin; refine Kd.R_append_rows k33 (w0 := w) w.heap.size rfl (.tmp 59) (.tmp 61) 22 33 (.agg #[(.int .i64 0), (.int .i64 0)]) 16 rfl Try.underlying22 info33 rfl (by decide) (by omega) u7 x7_1 ((rd_T27 t146 x22_1).f1) _ _ _ (fun _ => True) (fun _ => False) rfl rfl ?aO ?aR (fun _ _ h => h) (fun _ h => h.elim) ?aF ?aB ?aS ?aL ?_; (case aR => repeat (first | exact ((Kd.R_reads' (by (with_reducible repeat (first | apply Kd.R_alloc | apply Kd.R_drewN | apply Kd.R_drew)); exact (Kd.R_mono (Kd.R_far (p := ⟨gb150, 1, none⟩) (Kd.R_far (p := ⟨gb150, 0, none⟩) (Kd.R_types HL149_1.out BK150.out (by decide)) (fun _ hk => hk.2) (.int .i64 ((rd_T27 t146 x22_1).f0))) (fun _ hk => hk.2) (.slice A149_1 ((rd_T27 t146 x22_1).f1).length c149_1)) (fun _ h_ => h_.1)))).2.2) | (with_reducible refine Kd.C_alloc ?_ _) | (with_reducible refine Kd.C_drewN ?_ _) | (with_reducible refine Kd.C_drew ?_))); (case aB => exact (by repeat (first | (with_reducible first | exact HB.out | apply below_alloc | apply pw_below_drewN | apply below_drew1 | refine below_set ?_ GE150.out) | exact HB.out))); (case aF => exact (fun _ _ => trivial)); (case aO => exact (by (with_reducible repeat (first | apply Kd.R_alloc | apply Kd.R_drewN | apply Kd.R_drew)); exact Kd.R_mono (Kd.R_far (p := ⟨gb150, 1, none⟩) (Kd.R_far (p := ⟨gb150, 0, none⟩) (Kd.R_types HO_7.out BK150.out (by decide)) (fun _ hk => hk.2) (.int .i64 ((rd_T27 t146 x22_1).f0))) (fun _ hk => hk.2) (.slice A149_1 ((rd_T27 t146 x22_1).f1).length c149_1)) (fun _ hk => trivial))); (case aS => exact (below_size (by repeat (first | (with_reducible first | exact HB.out | apply below_alloc | apply pw_below_drewN | apply below_drew1 | refine below_set ?_ GE150.out) | exact HB.out)))); (case aL => have := LMc25.out; omega); intro v152 w28 ho hb hg hat; rw [← Ny151.out] at ho; have n0_ := Aside0.mk (Kd.S_after (ok := (fun k_ => k_ ≠ gb150)) (by (with_reducible repeat (first | apply Kd.S_alloc | apply Kd.S_drewN | apply Kd.S_drew)); exact Kd.S_mono (Kd.S_far (p := ⟨gb150, 1, none⟩) (Kd.S_far (p := ⟨gb150, 0, none⟩) (Kd.S_mono HO_8.out (fun k_ hk => (⟨hk, hk.2⟩ : _ ∧ k_ ≠ gb150))) (fun _ hk => hk.2) (.int .i64 ((rd_T27 t146 x22_1).f0))) (fun _ hk => hk.2) (.slice A149_1 ((rd_T27 t146 x22_1).f1).length c149_1)) (fun _ hk => ⟨hk.1.2, hk.1.1⟩)) hg hat); have n1_ := Aside0.mk (Kd.S_after (ok := (fun k_ => k_ ≠ gb150)) (by (with_reducible repeat (first | apply Kd.S_alloc | apply Kd.S_drewN | apply Kd.S_drew)); exact Kd.S_mono (Kd.S_far (p := ⟨gb150, 1, none⟩) (Kd.S_far (p := ⟨gb150, 0, none⟩) (Kd.S_mono HO_20.out (fun k_ hk => (⟨hk, hk.2⟩ : _ ∧ k_ ≠ gb150))) (fun _ hk => hk.2) (.int .i64 ((rd_T27 t146 x22_1).f0))) (fun _ hk => hk.2) (.slice A149_1 ((rd_T27 t146 x22_1).f1).length c149_1)) (fun _ hk => ⟨hk.1.2, hk.1.1⟩)) hg hat); have n2_ := Aside0.mk (Kd.R_after (ok := (fun k_ => some k_ ≠ (.slice (some ad149) t146.length co11 : Value).ownBlock)) (by (with_reducible repeat (first | apply Kd.R_alloc | apply Kd.R_drewN | apply Kd.R_drew)); exact Kd.R_mono (Kd.R_far (p := ⟨gb150, 1, none⟩) (Kd.R_far (p := ⟨gb150, 0, none⟩) (Kd.R_types HL149_1.out BK150.out (by decide)) (fun _ hk => hk.2) (.int .i64 ((rd_T27 t146 x22_1).f0))) (fun _ hk => hk.2) (.slice A149_1 ((rd_T27 t146 x22_1).f1).length c149_1)) (fun _ hk => ⟨hk.1.2, hk.1.1⟩)) hg hat); have n3_ := Aside0.mk (blk_grown (g := gb150) (o := .cells #[.int .i64 ((rd_T27 t146 x22_1).f0), .slice A149_1 ((rd_T27 t146 x22_1).f1).length c149_1] 27 (0, 0)) (by (with_reducible repeat (first | refine blk_drewN ?_ _ | refine blk_drew ?_ | refine blk_alloc ?_ _)); refine blk_put (cs := #[.int .i64 ((rd_T27 t146 x22_1).f0), .slice none 0 0]) ?_ 1 _ rfl; (with_reducible repeat (first | refine blk_drewN ?_ _ | refine blk_drew ?_ | refine blk_alloc ?_ _)); refine blk_put (cs := #[.int .i64 0, .slice none 0 0]) ?_ 0 _ rfl; (with_reducible repeat (first | refine blk_drewN ?_ _ | refine blk_drew ?_ | refine blk_alloc ?_ _)); exact BK150.out) hg (Kd.R_ne HO_7.out BK150.out (by decide))); have n4_ := Aside0.mk (hb); have n5_ := Aside0.mk (ho); clear HO_8; clear HO_20; clear HL149_1; clear BK150; clear HB; clear HO_7; have HO_8 := n0_; have HO_20 := n1_; have HL149_1 := n2_; have BK150 := n3_; have HB := n4_; have HO153 := n5_; clear n0_ n1_ n2_ n3_ n4_ n5_; clear ho hb hg hat))
                            go_roundg k1
                            case measure => have := HK1.out; omega
                            case rel => exact ⟨(y151), (wrap64 (x22_1 + 1)), (by first | rfl | (simp; done) | (simp [*]; done) | (simp <;> grind)), (by first | exact H' | (simp only [hji4, hji19]; exact H')), ⟨by have := HK1.out; omega⟩, ⟨by (with_reducible repeat (first | apply Kd.R_alloc | apply Kd.R_drewN | apply Kd.R_drew)); exact HO153.out⟩, ⟨by (with_reducible repeat (first | apply Kd.S_alloc | apply Kd.S_drewN | apply Kd.S_drew)); exact Kd.S_mono HO_8.out (fun _ hk => hk.2)⟩, ⟨by (with_reducible repeat (first | apply Kd.S_alloc | apply Kd.S_drewN | apply Kd.S_drew)); exact Kd.S_mono HO_20.out (fun _ hk => hk.2)⟩, ⟨by repeat (first | (with_reducible first | exact HB.out | apply below_alloc | apply pw_below_drewN | apply below_drew1 | refine below_set ?_ GE150.out) | exact HB.out)⟩⟩
                          · rw [if_neg c25] at H
                            exact absurd H (by simp)
                        · rw [if_neg c24] at H
                          have c24b0 : ((((rd_T27 t146 x22_1).f1).length : Int) == (ji19)) = false := beq_eq_false_iff_ne.mpr c24
                          have c24b1 : ((((rd_T27 t146 x22_1).f1).length : Int) != (ji19)) = true := bne_iff_ne.mpr c24
                          obtain rfl := Option.some.inj H
                          have p149 : 0 ≤ (x22_1 : Int) := of_decide_eq_true (by first | (with_reducible assumption) | assumption)
                          have q149 : x22_1 < (t146.length : Int) := of_decide_eq_true (by first | (with_reducible assumption) | assumption)
                          obtain ⟨ad149, A149_1, c149_1, e149, hx149_0, hx149_1, hl149_1, hi149_1⟩ := at_T27 (Kd.S_reads' HO_20.out).2.2 x22_1 p149 q149
                          cases e149
                          obtain ⟨ce149, hce149, hMe149, hcc149⟩ := Kd.S_get HO_20.out z27 x22_1 p149 (by first | exact q149 | exact of_decide_eq_true (by first | (with_reducible assumption) | assumption) | (have e_ := (Kd.S_reads' HO_20.out).1; omega))
                          obtain ⟨ve149_1, rfl, ge149_1⟩ := k27_openM hMe149
                          have hv149_1 := hcc149 1 _ rfl
                          rw [add_field _ _ 1 (by omega)] at hv149_1
                          replace hv149_1 := Option.some.inj (hv149_1.symm.trans hx149_1)
                          rw [hv149_1] at ge149_1
                          have HL149_1 := Aside0.mk (show Kd.R k33 33 _ _ _ _ ((rd_T27 t146 x22_1).f1) from ge149_1)
                          clear hv149_1 ge149_1
                          clear hcc149 hce149
                          have HR149_1 := Aside0.mk hi149_1
                          have HC149_1 := Aside0.mk hl149_1
                          clear hi149_1 hl149_1
                          replace p149 := eq_true p149
                          replace q149 := eq_true q149
                          go_wp2_with (first | ((with_reducible refine gate_dst (N := 10) rfl ?_); (try (refine gate_guard (by rfl) ?_; dsimp only)); refine box_event ?hg (N := 10) ?hd (cs := #[.int .i64 0, .slice none 0 0]) (t := 27) ?hr ?_; (case hd => rfl); (case hg => rfl); (case hr => first | (go_simp; done) | (go_simp; rfl)); intro gb150 hg w29 hbox hb; have n0_ := Aside0.mk (Kd.R_below (by (with_reducible repeat (first | apply Kd.R_alloc | apply Kd.R_drewN | apply Kd.R_drew)); exact HO_7.out) hb); have n1_ := Aside0.mk (Kd.S_below (Kd.S_elderB (by (with_reducible repeat (first | apply Kd.S_alloc | apply Kd.S_drewN | apply Kd.S_drew)); exact HO_8.out) gb150 (Nat.le_of_eq hg.symm)) hb); have n2_ := Aside0.mk (Kd.S_below (Kd.S_elderB (by (with_reducible repeat (first | apply Kd.S_alloc | apply Kd.S_drewN | apply Kd.S_drew)); exact HO_20.out) gb150 (Nat.le_of_eq hg.symm)) hb); have n3_ := Aside0.mk (Kd.R_below (by (with_reducible repeat (first | apply Kd.R_alloc | apply Kd.R_drewN | apply Kd.R_drew)); exact HL149_1.out) hb); have n4_ := Aside0.mk (Kd.C_below (by repeat (first | (with_reducible exact HR149_1.out) | (with_reducible refine Kd.C_alloc ?_ _) | (with_reducible refine Kd.C_drewN ?_ _) | (with_reducible refine Kd.C_drew ?_) | exact HR149_1.out)) hb); have n5_ := Aside0.mk (below_step (by repeat (first | (with_reducible first | exact HB.out | apply below_alloc | apply pw_below_drewN | apply below_drew1) | exact HB.out)) hb); have n6_ := Aside0.mk (hbox); have n7_ := Aside0.mk ((by rw [hg]; exact (below_size (by repeat (first | (with_reducible first | exact HB.out | apply below_alloc | apply pw_below_drewN | apply below_drew1) | exact HB.out))) : w.heap.size ≤ gb150)); have n8_ := Aside0.mk ((by rw [hg]; exact (below_size (by repeat (first | (with_reducible first | exact HB.out | apply below_alloc | apply pw_below_drewN | apply below_drew1) | exact HB.out))) : w.heap.size ≤ gb150)); clear HO_7; clear HO_8; clear HO_20; clear HL149_1; clear HR149_1; clear HB; have HO_7 := n0_; have HO_8 := n1_; have HO_20 := n2_; have HL149_1 := n3_; have HR149_1 := n4_; have HB := n5_; have BK150 := n6_; have GW150 := n7_; have GE150 := n8_; clear n0_ n1_ n2_ n3_ n4_ n5_ n6_ n7_ n8_; clear hb hbox hg; have hcz30_0 : w29.cell? ⟨gb150, 0, none⟩ = some (.int .i64 0) := (blk_cell BK150.out 0).trans rfl; have hcz30_1 : w29.cell? ⟨gb150, 1, none⟩ = some (.slice none 0 0) := (blk_cell BK150.out 1).trans rfl; have hfz30_0 := blk_frozen BK150.out 0; have hfz30_1 := blk_frozen BK150.out 1))
                          go_ret
                          exact ⟨by first | rfl | (simp [errW_none, errW_some] <;> rfl) | (simp only [← hji4, ← hji19]; first | rfl | (simp [errW_none, errW_some] <;> rfl)) | (simp [*, errW_none, errW_some] <;> rfl), by repeat (first | (with_reducible first | exact HB.out | apply below_alloc | apply pw_below_drewN | apply below_drew1 | refine below_set ?_ GE150.out) | exact HB.out)⟩
                      · rw [if_neg c23] at H
                        have c23b0 : decide ((wrap64 (x22_1 + 1)) < (t146.length : Int)) = false := decide_eq_false c23
                        clear c23
                        by_cases c31 : x7_1.length + ((rd_T27 t146 x22_1).f1).length < 8796093022208
                        · rw [if_pos c31] at H
                          have LMc31 := Aside0.mk c31
                          clear c31
                          obtain ⟨y154, hy154⟩ : ∃ y_ : List (S33), y_ = (x7_1 ++ ((rd_T27 t146 x22_1).f1)) := ⟨_, rfl⟩
                          replace H : (marigraphlaw09_BlockCuts.l0 k1 a1 t141 y142 y154 t146 t146 (t146.length : Int) (wrap64 (x22_1 + 1))) = some r := by first | (rw [hy154]; with_reducible exact H) | (have H2_ := (Option.bind_some _ _).symm.trans H; rw [hy154]; with_reducible exact H2_) | (have H2_ := (Option.bind_some _ _).symm.trans H; with_reducible exact H2_) | with_reducible exact H | (rw [hy154]; exact H) | exact H
                          have Ny154 := Aside0.mk hy154
                          clear hy154
                          have H' := Aside0.mk H
                          clear H
                          have p149 : 0 ≤ (x22_1 : Int) := of_decide_eq_true (by first | (with_reducible assumption) | assumption)
                          have q149 : x22_1 < (t146.length : Int) := of_decide_eq_true (by first | (with_reducible assumption) | assumption)
                          obtain ⟨ad149, A149_1, c149_1, e149, hx149_0, hx149_1, hl149_1, hi149_1⟩ := at_T27 (Kd.S_reads' HO_20.out).2.2 x22_1 p149 q149
                          cases e149
                          obtain ⟨ce149, hce149, hMe149, hcc149⟩ := Kd.S_get HO_20.out z27 x22_1 p149 (by first | exact q149 | exact of_decide_eq_true (by first | (with_reducible assumption) | assumption) | (have e_ := (Kd.S_reads' HO_20.out).1; omega))
                          obtain ⟨ve149_1, rfl, ge149_1⟩ := k27_openM hMe149
                          have hv149_1 := hcc149 1 _ rfl
                          rw [add_field _ _ 1 (by omega)] at hv149_1
                          replace hv149_1 := Option.some.inj (hv149_1.symm.trans hx149_1)
                          rw [hv149_1] at ge149_1
                          have HL149_1 := Aside0.mk (show Kd.R k33 33 _ _ _ _ ((rd_T27 t146 x22_1).f1) from ge149_1)
                          clear hv149_1 ge149_1
                          clear hcc149 hce149
                          have HR149_1 := Aside0.mk hi149_1
                          have HC149_1 := Aside0.mk hl149_1
                          clear hi149_1 hl149_1
                          replace p149 := eq_true p149
                          replace q149 := eq_true q149
                          go_wp2_with (first | ((with_reducible refine gate_dst (N := 10) rfl ?_); (try (refine gate_guard (by rfl) ?_; dsimp only)); refine box_event ?hg (N := 10) ?hd (cs := #[.int .i64 0, .slice none 0 0]) (t := 27) ?hr ?_; (case hd => rfl); (case hg => rfl); (case hr => first | (go_simp; done) | (go_simp; rfl)); intro gb150 hg w32 hbox hb; have n0_ := Aside0.mk (Kd.R_below (by (with_reducible repeat (first | apply Kd.R_alloc | apply Kd.R_drewN | apply Kd.R_drew)); exact HO_7.out) hb); have n1_ := Aside0.mk (Kd.S_below (Kd.S_elderB (by (with_reducible repeat (first | apply Kd.S_alloc | apply Kd.S_drewN | apply Kd.S_drew)); exact HO_8.out) gb150 (Nat.le_of_eq hg.symm)) hb); have n2_ := Aside0.mk (Kd.S_below (Kd.S_elderB (by (with_reducible repeat (first | apply Kd.S_alloc | apply Kd.S_drewN | apply Kd.S_drew)); exact HO_20.out) gb150 (Nat.le_of_eq hg.symm)) hb); have n3_ := Aside0.mk (Kd.R_below (by (with_reducible repeat (first | apply Kd.R_alloc | apply Kd.R_drewN | apply Kd.R_drew)); exact HL149_1.out) hb); have n4_ := Aside0.mk (Kd.C_below (by repeat (first | (with_reducible exact HR149_1.out) | (with_reducible refine Kd.C_alloc ?_ _) | (with_reducible refine Kd.C_drewN ?_ _) | (with_reducible refine Kd.C_drew ?_) | exact HR149_1.out)) hb); have n5_ := Aside0.mk (below_step (by repeat (first | (with_reducible first | exact HB.out | apply below_alloc | apply pw_below_drewN | apply below_drew1) | exact HB.out)) hb); have n6_ := Aside0.mk (hbox); have n7_ := Aside0.mk ((by rw [hg]; exact (below_size (by repeat (first | (with_reducible first | exact HB.out | apply below_alloc | apply pw_below_drewN | apply below_drew1) | exact HB.out))) : w.heap.size ≤ gb150)); have n8_ := Aside0.mk ((by rw [hg]; exact (below_size (by repeat (first | (with_reducible first | exact HB.out | apply below_alloc | apply pw_below_drewN | apply below_drew1) | exact HB.out))) : w.heap.size ≤ gb150)); clear HO_7; clear HO_8; clear HO_20; clear HL149_1; clear HR149_1; clear HB; have HO_7 := n0_; have HO_8 := n1_; have HO_20 := n2_; have HL149_1 := n3_; have HR149_1 := n4_; have HB := n5_; have BK150 := n6_; have GW150 := n7_; have GE150 := n8_; clear n0_ n1_ n2_ n3_ n4_ n5_ n6_ n7_ n8_; clear hb hbox hg; have hcz33_0 : w32.cell? ⟨gb150, 0, none⟩ = some (.int .i64 0) := (blk_cell BK150.out 0).trans rfl; have hcz33_1 : w32.cell? ⟨gb150, 1, none⟩ = some (.slice none 0 0) := (blk_cell BK150.out 1).trans rfl; have hfz33_0 := blk_frozen BK150.out 0; have hfz33_1 := blk_frozen BK150.out 1) | ((with_reducible refine gate_builtin (b := .append) (xs := #[.tmp 59, .tmp 61]) rfl ?_); (try (refine gate_guard (by rfl) ?_; dsimp only)); at_builtin; refine Kd.R_append_rows k33 (w0 := w) w.heap.size rfl (.tmp 59) (.tmp 61) 22 33 (.agg #[(.int .i64 0), (.int .i64 0)]) 16 rfl Try.underlying22 info33 rfl (by decide) (by omega) u7 x7_1 ((rd_T27 t146 x22_1).f1) _ _ _ (fun _ => True) (fun _ => False) rfl rfl ?aO ?aR (fun _ _ h => h) (fun _ h => h.elim) ?aF ?aB ?aS ?aL ?_; (case aR => repeat (first | exact ((Kd.R_reads' (by (with_reducible repeat (first | apply Kd.R_alloc | apply Kd.R_drewN | apply Kd.R_drew)); exact (Kd.R_mono (Kd.R_far (p := ⟨gb150, 1, none⟩) (Kd.R_far (p := ⟨gb150, 0, none⟩) (Kd.R_types HL149_1.out BK150.out (by decide)) (fun _ hk => hk.2) (.int .i64 ((rd_T27 t146 x22_1).f0))) (fun _ hk => hk.2) (.slice A149_1 ((rd_T27 t146 x22_1).f1).length c149_1)) (fun _ h_ => h_.1)))).2.2) | (with_reducible refine Kd.C_alloc ?_ _) | (with_reducible refine Kd.C_drewN ?_ _) | (with_reducible refine Kd.C_drew ?_))); (case aB => exact (by repeat (first | (with_reducible first | exact HB.out | apply below_alloc | apply pw_below_drewN | apply below_drew1 | refine below_set ?_ GE150.out) | exact HB.out))); (case aF => exact (fun _ _ => trivial)); (case aO => exact (by (with_reducible repeat (first | apply Kd.R_alloc | apply Kd.R_drewN | apply Kd.R_drew)); exact Kd.R_mono (Kd.R_far (p := ⟨gb150, 1, none⟩) (Kd.R_far (p := ⟨gb150, 0, none⟩) (Kd.R_types HO_7.out BK150.out (by decide)) (fun _ hk => hk.2) (.int .i64 ((rd_T27 t146 x22_1).f0))) (fun _ hk => hk.2) (.slice A149_1 ((rd_T27 t146 x22_1).f1).length c149_1)) (fun _ hk => trivial))); (case aS => exact (below_size (by repeat (first | (with_reducible first | exact HB.out | apply below_alloc | apply pw_below_drewN | apply below_drew1 | refine below_set ?_ GE150.out) | exact HB.out)))); (case aL => have := LMc31.out; omega); intro v155 w34 ho hb hg hat; rw [← Ny154.out] at ho; have n0_ := Aside0.mk (Kd.S_after (ok := (fun k_ => k_ ≠ gb150)) (by (with_reducible repeat (first | apply Kd.S_alloc | apply Kd.S_drewN | apply Kd.S_drew)); exact Kd.S_mono (Kd.S_far (p := ⟨gb150, 1, none⟩) (Kd.S_far (p := ⟨gb150, 0, none⟩) (Kd.S_mono HO_8.out (fun k_ hk => (⟨hk, hk.2⟩ : _ ∧ k_ ≠ gb150))) (fun _ hk => hk.2) (.int .i64 ((rd_T27 t146 x22_1).f0))) (fun _ hk => hk.2) (.slice A149_1 ((rd_T27 t146 x22_1).f1).length c149_1)) (fun _ hk => ⟨hk.1.2, hk.1.1⟩)) hg hat); have n1_ := Aside0.mk (Kd.S_after (ok := (fun k_ => k_ ≠ gb150)) (by (with_reducible repeat (first | apply Kd.S_alloc | apply Kd.S_drewN | apply Kd.S_drew)); exact Kd.S_mono (Kd.S_far (p := ⟨gb150, 1, none⟩) (Kd.S_far (p := ⟨gb150, 0, none⟩) (Kd.S_mono HO_20.out (fun k_ hk => (⟨hk, hk.2⟩ : _ ∧ k_ ≠ gb150))) (fun _ hk => hk.2) (.int .i64 ((rd_T27 t146 x22_1).f0))) (fun _ hk => hk.2) (.slice A149_1 ((rd_T27 t146 x22_1).f1).length c149_1)) (fun _ hk => ⟨hk.1.2, hk.1.1⟩)) hg hat); have n2_ := Aside0.mk (Kd.R_after (ok := (fun k_ => some k_ ≠ (.slice (some ad149) t146.length co11 : Value).ownBlock)) (by (with_reducible repeat (first | apply Kd.R_alloc | apply Kd.R_drewN | apply Kd.R_drew)); exact Kd.R_mono (Kd.R_far (p := ⟨gb150, 1, none⟩) (Kd.R_far (p := ⟨gb150, 0, none⟩) (Kd.R_types HL149_1.out BK150.out (by decide)) (fun _ hk => hk.2) (.int .i64 ((rd_T27 t146 x22_1).f0))) (fun _ hk => hk.2) (.slice A149_1 ((rd_T27 t146 x22_1).f1).length c149_1)) (fun _ hk => ⟨hk.1.2, hk.1.1⟩)) hg hat); have n3_ := Aside0.mk (blk_grown (g := gb150) (o := .cells #[.int .i64 ((rd_T27 t146 x22_1).f0), .slice A149_1 ((rd_T27 t146 x22_1).f1).length c149_1] 27 (0, 0)) (by (with_reducible repeat (first | refine blk_drewN ?_ _ | refine blk_drew ?_ | refine blk_alloc ?_ _)); refine blk_put (cs := #[.int .i64 ((rd_T27 t146 x22_1).f0), .slice none 0 0]) ?_ 1 _ rfl; (with_reducible repeat (first | refine blk_drewN ?_ _ | refine blk_drew ?_ | refine blk_alloc ?_ _)); refine blk_put (cs := #[.int .i64 0, .slice none 0 0]) ?_ 0 _ rfl; (with_reducible repeat (first | refine blk_drewN ?_ _ | refine blk_drew ?_ | refine blk_alloc ?_ _)); exact BK150.out) hg (Kd.R_ne HO_7.out BK150.out (by decide))); have n4_ := Aside0.mk (hb); have n5_ := Aside0.mk (ho); clear HO_8; clear HO_20; clear HL149_1; clear BK150; clear HB; clear HO_7; have HO_8 := n0_; have HO_20 := n1_; have HL149_1 := n2_; have BK150 := n3_; have HB := n4_; have HO156 := n5_; clear n0_ n1_ n2_ n3_ n4_ n5_; clear ho hb hg hat))
                          go_roundg k1
                          case measure => have := HK1.out; omega
                          case rel => exact ⟨(y154), (wrap64 (x22_1 + 1)), (by first | rfl | (simp; done) | (simp [*]; done) | (simp <;> grind)), (by first | exact H' | (simp only [hji4, hji19]; exact H')), ⟨by have := HK1.out; omega⟩, ⟨by (with_reducible repeat (first | apply Kd.R_alloc | apply Kd.R_drewN | apply Kd.R_drew)); exact HO156.out⟩, ⟨by (with_reducible repeat (first | apply Kd.S_alloc | apply Kd.S_drewN | apply Kd.S_drew)); exact Kd.S_mono HO_8.out (fun _ hk => hk.2)⟩, ⟨by (with_reducible repeat (first | apply Kd.S_alloc | apply Kd.S_drewN | apply Kd.S_drew)); exact Kd.S_mono HO_20.out (fun _ hk => hk.2)⟩, ⟨by repeat (first | (with_reducible first | exact HB.out | apply below_alloc | apply pw_below_drewN | apply below_drew1 | refine below_set ?_ GE150.out) | exact HB.out)⟩⟩
                        · rw [if_neg c31] at H
                          exact absurd H (by simp)
                · rw [if_neg c15] at H
                  have c15b0 : (((rd_T27 t146 x22_1).f0) == 3) = false := beq_eq_false_iff_ne.mpr c15
                  have c15b1 : (((rd_T27 t146 x22_1).f0) != 3) = true := bne_iff_ne.mpr c15
                  obtain rfl := Option.some.inj H
                  have p149 : 0 ≤ (x22_1 : Int) := of_decide_eq_true (by first | (with_reducible assumption) | assumption)
                  have q149 : x22_1 < (t146.length : Int) := of_decide_eq_true (by first | (with_reducible assumption) | assumption)
                  obtain ⟨ad149, A149_1, c149_1, e149, hx149_0, hx149_1, hl149_1, hi149_1⟩ := at_T27 (Kd.S_reads' HO_20.out).2.2 x22_1 p149 q149
                  cases e149
                  obtain ⟨ce149, hce149, hMe149, hcc149⟩ := Kd.S_get HO_20.out z27 x22_1 p149 (by first | exact q149 | exact of_decide_eq_true (by first | (with_reducible assumption) | assumption) | (have e_ := (Kd.S_reads' HO_20.out).1; omega))
                  obtain ⟨ve149_1, rfl, ge149_1⟩ := k27_openM hMe149
                  have hv149_1 := hcc149 1 _ rfl
                  rw [add_field _ _ 1 (by omega)] at hv149_1
                  replace hv149_1 := Option.some.inj (hv149_1.symm.trans hx149_1)
                  rw [hv149_1] at ge149_1
                  have HL149_1 := Aside0.mk (show Kd.R k33 33 _ _ _ _ ((rd_T27 t146 x22_1).f1) from ge149_1)
                  clear hv149_1 ge149_1
                  clear hcc149 hce149
                  have HR149_1 := Aside0.mk hi149_1
                  have HC149_1 := Aside0.mk hl149_1
                  clear hi149_1 hl149_1
                  replace p149 := eq_true p149
                  replace q149 := eq_true q149
                  go_wp2_with (first | ((with_reducible refine gate_dst (N := 10) rfl ?_); (try (refine gate_guard (by rfl) ?_; dsimp only)); refine box_event ?hg (N := 10) ?hd (cs := #[.int .i64 0, .slice none 0 0]) (t := 27) ?hr ?_; (case hd => rfl); (case hg => rfl); (case hr => first | (go_simp; done) | (go_simp; rfl)); intro gb150 hg w35 hbox hb; have n0_ := Aside0.mk (Kd.R_below (by (with_reducible repeat (first | apply Kd.R_alloc | apply Kd.R_drewN | apply Kd.R_drew)); exact HO_7.out) hb); have n1_ := Aside0.mk (Kd.S_below (Kd.S_elderB (by (with_reducible repeat (first | apply Kd.S_alloc | apply Kd.S_drewN | apply Kd.S_drew)); exact HO_8.out) gb150 (Nat.le_of_eq hg.symm)) hb); have n2_ := Aside0.mk (Kd.S_below (Kd.S_elderB (by (with_reducible repeat (first | apply Kd.S_alloc | apply Kd.S_drewN | apply Kd.S_drew)); exact HO_20.out) gb150 (Nat.le_of_eq hg.symm)) hb); have n3_ := Aside0.mk (Kd.R_below (by (with_reducible repeat (first | apply Kd.R_alloc | apply Kd.R_drewN | apply Kd.R_drew)); exact HL149_1.out) hb); have n4_ := Aside0.mk (Kd.C_below (by repeat (first | (with_reducible exact HR149_1.out) | (with_reducible refine Kd.C_alloc ?_ _) | (with_reducible refine Kd.C_drewN ?_ _) | (with_reducible refine Kd.C_drew ?_) | exact HR149_1.out)) hb); have n5_ := Aside0.mk (below_step (by repeat (first | (with_reducible first | exact HB.out | apply below_alloc | apply pw_below_drewN | apply below_drew1) | exact HB.out)) hb); have n6_ := Aside0.mk (hbox); have n7_ := Aside0.mk ((by rw [hg]; exact (below_size (by repeat (first | (with_reducible first | exact HB.out | apply below_alloc | apply pw_below_drewN | apply below_drew1) | exact HB.out))) : w.heap.size ≤ gb150)); have n8_ := Aside0.mk ((by rw [hg]; exact (below_size (by repeat (first | (with_reducible first | exact HB.out | apply below_alloc | apply pw_below_drewN | apply below_drew1) | exact HB.out))) : w.heap.size ≤ gb150)); clear HO_7; clear HO_8; clear HO_20; clear HL149_1; clear HR149_1; clear HB; have HO_7 := n0_; have HO_8 := n1_; have HO_20 := n2_; have HL149_1 := n3_; have HR149_1 := n4_; have HB := n5_; have BK150 := n6_; have GW150 := n7_; have GE150 := n8_; clear n0_ n1_ n2_ n3_ n4_ n5_ n6_ n7_ n8_; clear hb hbox hg; have hcz36_0 : w35.cell? ⟨gb150, 0, none⟩ = some (.int .i64 0) := (blk_cell BK150.out 0).trans rfl; have hcz36_1 : w35.cell? ⟨gb150, 1, none⟩ = some (.slice none 0 0) := (blk_cell BK150.out 1).trans rfl; have hfz36_0 := blk_frozen BK150.out 0; have hfz36_1 := blk_frozen BK150.out 1))
                  go_ret
                  exact ⟨by first | rfl | (simp [errW_none, errW_some] <;> rfl) | (simp only [← hji4]; first | rfl | (simp [errW_none, errW_some] <;> rfl)) | (simp [*, errW_none, errW_some] <;> rfl), by repeat (first | (with_reducible first | exact HB.out | apply below_alloc | apply pw_below_drewN | apply below_drew1 | refine below_set ?_ GE150.out) | exact HB.out)⟩
              · rw [if_neg c14] at H
                exact absurd H (by simp)
            · rw [if_neg c13] at H
              exact absurd H (by simp)
          · rw [if_neg c12] at H
            have c12b0 : decide (x22_1 < (t146.length : Int)) = false := decide_eq_false c12
            clear c12
            by_cases c37 : t141 = true
            · subst c37
              have H1 : ((marigraphref04_Same.f k1 x7_1 y142).bind fun t157 => (some t157)) = some r := by rw [if_pos rfl] at H; exact H
              clear H
              have H := H1
              clear H1
              replace H := Option.bind_eq_some_iff.mp H
              obtain ⟨t157, A380, H⟩ := H
              replace H : (some t157) = some r := H
              have A38 := Aside0.mk A380
              clear A380
              obtain rfl := Option.some.inj H
              obtain ⟨Ao39, co39, eo39⟩ := Kd.R_slice HO_7.out
              subst eo39
              go_wp2_with (first | (go_at_call 13; (with_reducible refine (marigraphref04_Same.calls k1 _ _ x7_1 _ _ y142 t157 _ ?side1 ?side2 ?side3 ?side4 A38.out).mono ?_); (case side1 => repeat (first | exact (Kd.R_reads' HO_7.out).2.2 | (with_reducible refine Kd.C_alloc ?_ _) | (with_reducible refine Kd.C_drewN ?_ _) | (with_reducible refine Kd.C_drew ?_))); (case side2 => exact (Kd.R_reads' HO_7.out).2.1); (case side3 => repeat (first | exact (Kd.C_below HR145.out HB.out) | (with_reducible refine Kd.C_alloc ?_ _) | (with_reducible refine Kd.C_drewN ?_ _) | (with_reducible refine Kd.C_drew ?_))); (case side4 => exact HC145.out); rintro e w' ⟨rfl, ⟨nd, rfl⟩⟩))
              go_ret
              exact ⟨by first | rfl | (simp [errW_none, errW_some] <;> rfl) | (simp only [← hji4]; first | rfl | (simp [errW_none, errW_some] <;> rfl)) | (simp [*, errW_none, errW_some] <;> rfl), by repeat (first | (with_reducible first | exact HB.out | apply below_alloc | apply pw_below_drewN | apply below_drew1) | exact HB.out)⟩
            · replace c37 := Bool.eq_false_iff.mpr c37
              subst c37
              have H1 : (some false) = some r := by rw [if_neg (show ¬ (false = true) by decide)] at H; exact H
              clear H
              have H := H1
              clear H1
              obtain rfl := Option.some.inj H
              go_wp2
              go_ret
              exact ⟨by first | rfl | (simp [errW_none, errW_some] <;> rfl) | (simp only [← hji4]; first | rfl | (simp [errW_none, errW_some] <;> rfl)) | (simp [*, errW_none, errW_some] <;> rfl), by repeat (first | (with_reducible first | exact HB.out | apply below_alloc | apply pw_below_drewN | apply below_drew1) | exact HB.out)⟩
    · rw [if_neg c6] at H
      exact absurd H (by simp)
  · rw [if_neg c5] at H
    exact absurd H (by simp)

end Go.Proofs.Ytckcplmjnpgegaa.X
