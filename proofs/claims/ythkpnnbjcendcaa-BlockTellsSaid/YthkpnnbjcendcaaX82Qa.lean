-- By xprint.py, out of the translation's own print. Lean checks it.
import Derived.Test.YthkpnnbjcendcaaX0Qa
namespace Go.Proofs.Ythkpnnbjcendcaa.X
open Go.RowKit Go.Proofs.YthkpnnbjcendcaaW.PrintWords Go.Proofs.YthkpnnbjcendcaaW.PrintLast Go.Proofs.YthkpnnbjcendcaaW.PrintMore
attribute [local go_sem] max2_int min2_int max_two min_two max_three min_three max_four min_four   -- for this text's walks alone
set_option linter.unusedVariables false
set_option linter.unusedSimpArgs false

/-! ### marigraphref09_Cut: function 52 -/
def marigraphref09_Cut.l0 : Nat → Int → List (S52) → Int → List (S109) → Int → Option ((List (S109)))
  | 0, _, _, _, _, _ => none
  | k + 1, x0, x1, x2, x7, x8 => if x8 < (x1.length : Int) then (if (wrap64 ((x7.length : Int) - 1)) < 0 then (if x7.length < 4398046511104 then ((some (x7 ++ [(⟨x0, ([] : List (S52))⟩ : S109)] : List (S109))).bind fun y293 => (if 0 ≤ (wrap64 ((wrap64 ((x7.length : Int) - 1)) + 1)) then (if (wrap64 ((wrap64 ((x7.length : Int) - 1)) + 1)) < (y293.length : Int) then (if 0 ≤ x8 then (if ((rd_T109 y293 (wrap64 ((wrap64 ((x7.length : Int) - 1)) + 1))).f1).length < 8796093022208 then (marigraphref09_Cut.l0 k x0 x1 x2 (y293.set ((wrap64 ((wrap64 ((x7.length : Int) - 1)) + 1)) : Int).toNat (⟨(rd_T109 y293 (wrap64 ((wrap64 ((x7.length : Int) - 1)) + 1))).f0, (((rd_T109 y293 (wrap64 ((wrap64 ((x7.length : Int) - 1)) + 1))).f1) ++ [(⟨(rd_T52 x1 x8).f0, (rd_T52 x1 x8).f1⟩ : S52)])⟩ : S109)) (wrap64 (x8 + 1))) else (none)) else (none)) else (none)) else (none))) else (none)) else (if 0 ≤ (wrap64 ((x7.length : Int) - 1)) then (if (wrap64 ((x7.length : Int) - 1)) < (x7.length : Int) then (if (((rd_T109 x7 (wrap64 ((x7.length : Int) - 1))).f1).length : Int) ≥ (mx x2 1) then (if x7.length < 4398046511104 then ((some (x7 ++ [(⟨x0, ([] : List (S52))⟩ : S109)] : List (S109))).bind fun y303 => (if 0 ≤ (wrap64 ((wrap64 ((x7.length : Int) - 1)) + 1)) then (if (wrap64 ((wrap64 ((x7.length : Int) - 1)) + 1)) < (y303.length : Int) then (if 0 ≤ x8 then (if ((rd_T109 y303 (wrap64 ((wrap64 ((x7.length : Int) - 1)) + 1))).f1).length < 8796093022208 then (marigraphref09_Cut.l0 k x0 x1 x2 (y303.set ((wrap64 ((wrap64 ((x7.length : Int) - 1)) + 1)) : Int).toNat (⟨(rd_T109 y303 (wrap64 ((wrap64 ((x7.length : Int) - 1)) + 1))).f0, (((rd_T109 y303 (wrap64 ((wrap64 ((x7.length : Int) - 1)) + 1))).f1) ++ [(⟨(rd_T52 x1 x8).f0, (rd_T52 x1 x8).f1⟩ : S52)])⟩ : S109)) (wrap64 (x8 + 1))) else (none)) else (none)) else (none)) else (none))) else (none)) else (if 0 ≤ x8 then (if ((rd_T109 x7 (wrap64 ((x7.length : Int) - 1))).f1).length < 8796093022208 then (marigraphref09_Cut.l0 k x0 x1 x2 (x7.set ((wrap64 ((x7.length : Int) - 1)) : Int).toNat (⟨(rd_T109 x7 (wrap64 ((x7.length : Int) - 1))).f0, (((rd_T109 x7 (wrap64 ((x7.length : Int) - 1))).f1) ++ [(⟨(rd_T52 x1 x8).f0, (rd_T52 x1 x8).f1⟩ : S52)])⟩ : S109)) (wrap64 (x8 + 1))) else (none)) else (none))) else (none)) else (none))) else (some x7)
def marigraphref09_Cut.f (k : Nat) (a0 : Int) (l1 : List (S52)) (a2 : Int) : Option ((List (S109))) := marigraphref09_Cut.l0 k a0 l1 a2 ([] : List (S109)) 0
theorem marigraphref09_Cut.mono_l : ∀ k, (∀ y0 y1 y2 y3 y4, LeO (marigraphref09_Cut.l0 k y0 y1 y2 y3 y4) (marigraphref09_Cut.l0 (k + 1) y0 y1 y2 y3 y4))
  | 0 => fun _ _ _ _ _ r h => by simp [marigraphref09_Cut.l0] at h
  | k + 1 => by
    have ih0 := marigraphref09_Cut.mono_l k
    · intro y0 y1 y2 y3 y4
      unfold marigraphref09_Cut.l0
      repeat' first
      | (with_reducible exact ih0 _ _ _ _ _)
      | (with_reducible exact LeO.refl _)
      | (with_reducible exact LeO.none _)
      | (with_reducible refine LeO.ite ?_ ?_)
      | (with_reducible refine LeO.bind ?_ (fun _ => ?_))
      | exact ih0 _ _ _ _ _
      | exact LeO.none _
      | refine LeO.ite ?_ ?_
      | refine LeO.bind ?_ (fun _ => ?_)
theorem marigraphref09_Cut.mono : ∀ a0 a1 a2 k, LeO (marigraphref09_Cut.f k a0 a1 a2) (marigraphref09_Cut.f (k + 1) a0 a1 a2) := by
  intro a0 a1 a2 k
  have ih0 := marigraphref09_Cut.mono_l k
  unfold marigraphref09_Cut.f
  repeat' first
      | (with_reducible exact ih0 _ _ _ _ _)
      | (with_reducible exact LeO.refl _)
      | (with_reducible exact LeO.none _)
      | (with_reducible refine LeO.ite ?_ ?_)
      | (with_reducible refine LeO.bind ?_ (fun _ => ?_))
      | exact ih0 _ _ _ _ _
      | exact LeO.none _
      | refine LeO.ite ?_ ?_
      | refine LeO.bind ?_ (fun _ => ?_)
def marigraphref09_Cut.T9 : Bool × List (List Nat × List Nat) := (true, [([], []), ([], []), ([], []), ([], []), ([2, 3], [2, 3]), ([4], [4]), ([5], [5]), ([], []), ([], []), ([7, 8], [7, 8]), ([9], [9]), ([10], [10]), ([6, 11], [6, 11]), ([0, 1, 0, 1, 2, 3, 4, 5, 6, 7, 8, 9, 10, 11, 12], [0, 1]), ([13, 0, 1, 2, 3, 4, 5, 6, 7, 8, 9, 10, 11, 12], [13]), ([14, 12, 12, 0, 1, 2, 3, 4, 5, 6, 7, 8, 9, 10, 11, 12], [12, 14])])
def marigraphref09_Cut.B9 : List Nat := [0, 0, 0, 0, 12, 28, 60, 0, 0, 384, 896, 1920, 4092, 8191, 16383, 32767]
theorem marigraphref09_Cut.tab9 : rtab .any (opsOf Try.f52 9) = marigraphref09_Cut.T9 := by kernel_rfl
theorem marigraphref09_Cut.bits9 : waitsOk marigraphref09_Cut.T9.2 marigraphref09_Cut.B9 = true := by kernel_rfl
set_option maxHeartbeats 8000000 in
set_option maxRecDepth 100000 in
theorem marigraphref09_Cut.calls (k : Nat) (a0 : Int) (A1 : Option Addr) (c1 : Nat) (l1 : List (S52)) (a2 : Int) (r : List (S109)) (w : World) (hr1 : Kd.C k52 w A1 l1.length l1) (hc1 : l1.length ≤ c1) (h : marigraphref09_Cut.f k a0 l1 a2 = some r) :
    Calls Try.prog 52 #[.int .i64 a0, .slice A1 l1.length c1, .int .i64 a2] w fun e w' => ∃ v0_ : Value, e = .returned (v0_) ∧ Kd.S k109 109 w' w.heap.size (fun _ => True) v0_ r ∧ Below w.heap.size w w' := by
  have hu109 := Try.underlying109
  have hu52 := Try.underlying52
  have HR1 := Aside0.mk hr1
  have HC1 := Aside0.mk hc1
  clear hr1 hc1
  have HB := Aside0.mk (Below.refl w.heap.size w)
  have H : (marigraphref09_Cut.l0 k a0 l1 a2 ([] : List (S109)) 0) = some r := h
  clear h
  have H' := Aside0.mk H
  clear H
  go_enter Try.func52, Try.ntmps52
  go_wp2
  go_loopg [7, 8] k (fun kq v7 v8 w' => ∃ (x7_1 : List (S109)) (x8_1 : Int), v8 = .int .i64 x8_1 ∧ Aside0 (marigraphref09_Cut.l0 kq a0 l1 a2 x7_1 x8_1 = some r) ∧ Aside0 (kq ≤ k) ∧ Aside0 (Kd.S k109 109 w' w.heap.size (fun _ => True) v7 x7_1) ∧ Aside0 (Below w.heap.size w w'))
  case atStart => exact ⟨(([] : List (S109))), (0), (by first | rfl | (simp; done) | (simp [*]; done) | (simp <;> grind)), H', ⟨Nat.le_refl _⟩, ⟨by first | exact Kd.S_nil _ _ _ _ _ | exact Kd.N_nil _ _ _ _ _ | exact Kd.V_nil _ _ _ _ _ | exact Kd.Q_nil _ _ _ _ _ | exact Kd.R_nil _ _ _ _ _⟩, ⟨by repeat (first | (with_reducible first | exact HB.out | apply below_alloc | apply pw_below_drewN | apply below_drew1) | exact HB.out)⟩⟩
  case round =>
    clear H'
    try clear c1
    try clear p2
    obtain ⟨x7_1, x8_1, rfl, HA, HK1, HO_7, HB⟩ := hrel
    cases gk with
    | zero => exact absurd HA.out (by simp [marigraphref09_Cut.l0])
    | succ k1 =>
      have H := HA.out
      clear HA
      simp only [marigraphref09_Cut.l0] at H
      by_cases c4 : x8_1 < (l1.length : Int)
      · rw [if_pos c4] at H
        have c4b0 : decide (x8_1 < (l1.length : Int)) = true := decide_eq_true c4
        clear c4
        by_cases c5 : (wrap64 ((x7_1.length : Int) - 1)) < 0
        · rw [if_pos c5] at H
          have c5b0 : decide ((wrap64 ((x7_1.length : Int) - 1)) < 0) = true := decide_eq_true c5
          clear c5
          by_cases c6 : x7_1.length < 4398046511104
          · rw [if_pos c6] at H
            have LMc6 := Aside0.mk c6
            clear c6
            obtain ⟨y293, hy293⟩ : ∃ y_ : List (S109), y_ = (x7_1 ++ [(⟨a0, ([] : List (S52))⟩ : S109)]) := ⟨_, rfl⟩
            replace H : (if 0 ≤ (wrap64 ((wrap64 ((x7_1.length : Int) - 1)) + 1)) then (if (wrap64 ((wrap64 ((x7_1.length : Int) - 1)) + 1)) < (y293.length : Int) then (if 0 ≤ x8_1 then (if ((rd_T109 y293 (wrap64 ((wrap64 ((x7_1.length : Int) - 1)) + 1))).f1).length < 8796093022208 then (marigraphref09_Cut.l0 k1 a0 l1 a2 (y293.set ((wrap64 ((wrap64 ((x7_1.length : Int) - 1)) + 1)) : Int).toNat (⟨(rd_T109 y293 (wrap64 ((wrap64 ((x7_1.length : Int) - 1)) + 1))).f0, (((rd_T109 y293 (wrap64 ((wrap64 ((x7_1.length : Int) - 1)) + 1))).f1) ++ [(⟨(rd_T52 l1 x8_1).f0, (rd_T52 l1 x8_1).f1⟩ : S52)])⟩ : S109)) (wrap64 (x8_1 + 1))) else (none)) else (none)) else (none)) else (none)) = some r := by first | (rw [hy293]; with_reducible exact H) | (have H2_ := (Option.bind_some _ _).symm.trans H; rw [hy293]; with_reducible exact H2_) | (have H2_ := (Option.bind_some _ _).symm.trans H; with_reducible exact H2_) | with_reducible exact H | (rw [hy293]; exact H) | exact H
            have Ny293 := Aside0.mk hy293
            clear hy293
            obtain ⟨ji7, hji7⟩ : ∃ j_ : Int, (wrap64 ((wrap64 ((x7_1.length : Int) - 1)) + 1)) = j_ := ⟨_, rfl⟩
            replace H : (if 0 ≤ (ji7) then (if (ji7) < (y293.length : Int) then (if 0 ≤ x8_1 then (if ((rd_T109 y293 (ji7)).f1).length < 8796093022208 then (marigraphref09_Cut.l0 k1 a0 l1 a2 (y293.set ((ji7) : Int).toNat (⟨(rd_T109 y293 (ji7)).f0, (((rd_T109 y293 (ji7)).f1) ++ [(⟨(rd_T52 l1 x8_1).f0, (rd_T52 l1 x8_1).f1⟩ : S52)])⟩ : S109)) (wrap64 (x8_1 + 1))) else (none)) else (none)) else (none)) else (none)) = some r := by first | (rw [hji7] at H; exact H) | (simp only [hji7] at H ⊢; exact H)
            have hji7w : (IntKind.i64.wrap ((wrap64 ((x7_1.length : Int) - 1)) + 1)) = ji7 := (i64_w _).trans hji7
            by_cases c8 : 0 ≤ (ji7)
            · rw [if_pos c8] at H
              have c8b0 : decide (0 ≤ (ji7)) = true := decide_eq_true c8
              clear c8
              by_cases c9 : (ji7) < (y293.length : Int)
              · rw [if_pos c9] at H
                have c9b0 : decide ((ji7) < (y293.length : Int)) = true := decide_eq_true c9
                clear c9
                by_cases c10 : 0 ≤ x8_1
                · rw [if_pos c10] at H
                  have c10b0 : decide (0 ≤ x8_1) = true := decide_eq_true c10
                  clear c10
                  by_cases c11 : ((rd_T109 y293 (ji7)).f1).length < 8796093022208
                  · rw [if_pos c11] at H
                    have LMc11 := Aside0.mk c11
                    clear c11
                    obtain ⟨y298, hy298⟩ : ∃ y_ : List (S52), y_ = (((rd_T109 y293 (ji7)).f1) ++ [(⟨(rd_T52 l1 x8_1).f0, (rd_T52 l1 x8_1).f1⟩ : S52)]) := ⟨_, rfl⟩
                    replace H : (marigraphref09_Cut.l0 k1 a0 l1 a2 (y293.set ((ji7) : Int).toNat (⟨(rd_T109 y293 (ji7)).f0, y298⟩ : S109)) (wrap64 (x8_1 + 1))) = some r := by first | (rw [hy298]; with_reducible exact H) | (have H2_ := (Option.bind_some _ _).symm.trans H; rw [hy298]; with_reducible exact H2_) | (have H2_ := (Option.bind_some _ _).symm.trans H; with_reducible exact H2_) | with_reducible exact H | (rw [hy298]; exact H) | exact H
                    have Ny298 := Aside0.mk hy298
                    clear hy298
                    obtain ⟨y301, hy301⟩ : ∃ y_ : List (S109), y_ = (y293.set ((ji7) : Int).toNat (⟨(rd_T109 y293 (ji7)).f0, y298⟩ : S109)) := ⟨_, rfl⟩
                    replace H : (marigraphref09_Cut.l0 k1 a0 l1 a2 y301 (wrap64 (x8_1 + 1))) = some r := by first | (rw [hy301]; with_reducible exact H) | (have H2_ := (Option.bind_some _ _).symm.trans H; rw [hy301]; with_reducible exact H2_) | (have H2_ := (Option.bind_some _ _).symm.trans H; with_reducible exact H2_) | with_reducible exact H | (rw [hy301]; exact H) | exact H
                    have Ny301 := Aside0.mk hy301
                    clear hy301
                    have H' := Aside0.mk H
                    clear H
                    obtain ⟨Ao13, co13, eo13⟩ := Kd.S_slice HO_7.out
                    subst eo13
                    try go_wp2_with (first | ((with_reducible refine gate_builtin (b := .append) (xs := #[.tmp 32, .tmp 35]) rfl ?_); at_builtin; refine Kd.S_append k109 (w0 := w) w.heap.size rfl (.tmp 32) (.tmp 35) 66 109 (.agg #[(.int .i64 0), (.slice none 0 0)]) 32 rfl Try.underlying66 info109 rfl (by decide) (by omega) (.slice Ao13 x7_1.length co13) x7_1 (⟨a0, ([] : List (S52))⟩ : S109) [.int .i64 a0, .slice none 0 0] (fun _ => True) (fun _ => False) rfl rfl ?aP (fun k_ hk_ => hk_.elim) ?aF ?aO ?aB ?aS ?aL ?_; (case aP => exact k109_mkM _ _ _ (⟨a0, ([] : List (S52))⟩ : S109) (Kd.R_nil _ _ _ _ _)); (case aB => exact (by repeat (first | (with_reducible first | exact HB.out | apply below_alloc | apply pw_below_drewN | apply below_drew1) | exact HB.out))); (case aF => exact (fun _ _ => trivial)); (case aO => exact (by (with_reducible repeat (first | apply Kd.S_alloc | apply Kd.S_drewN | apply Kd.S_drew)); exact Kd.S_mono HO_7.out (fun k_ hk => ⟨trivial, fun e_ => e_⟩))); (case aS => exact (below_size (by repeat (first | (with_reducible first | exact HB.out | apply below_alloc | apply pw_below_drewN | apply below_drew1) | exact HB.out)))); (case aL => have := LMc6.out; omega); intro v294 w14 ho hb hg hat; rw [← Ny293.out] at ho; have n0_ := Aside0.mk (hb); have n1_ := Aside0.mk (ho); clear HB; clear HO_7; have HB := n0_; have HO295 := n1_; clear n0_ n1_; clear ho hb hg hat))
                    have n0_ := Aside0.mk (Kd.S_drew HO295.out)
                    have n1_ := Aside0.mk (below_drew1 HB.out)
                    clear HO295
                    clear HB
                    have HO295 := n0_
                    have HB := n1_
                    clear n0_ n1_
                    obtain ⟨Ao16, co16, eo16⟩ := Kd.S_slice HO295.out
                    (first | subst eo16 | (injection eo16 with f1_ f2_ f3_; have f4_ := f1_.symm; have f5_ := f3_.symm; clear f1_ f2_ f3_; subst f4_; subst f5_))
                    have p296 : 0 ≤ ((ji7) : Int) := of_decide_eq_true (by first | (with_reducible assumption) | assumption)
                    have q296 : (ji7) < (y293.length : Int) := of_decide_eq_true (by first | (with_reducible assumption) | assumption)
                    obtain ⟨ad296, A296_1, c296_1, e296, hx296_0, hx296_1, hl296_1, hi296_1⟩ := at_T109 (Kd.S_reads' HO295.out).2.2 (ji7) p296 q296
                    cases e296
                    obtain ⟨ce296, hce296, hMe296, hcc296⟩ := Kd.S_get HO295.out z109 (ji7) p296 (by first | exact q296 | exact of_decide_eq_true (by first | (with_reducible assumption) | assumption) | (have e_ := (Kd.S_reads' HO295.out).1; omega))
                    obtain ⟨ve296_1, rfl, ge296_1⟩ := k109_openM hMe296
                    have hv296_1 := hcc296 1 _ rfl
                    rw [add_field _ _ 1 (by omega)] at hv296_1
                    replace hv296_1 := Option.some.inj (hv296_1.symm.trans hx296_1)
                    rw [hv296_1] at ge296_1
                    have HL296_1 := Aside0.mk (show Kd.R k52 52 _ _ _ _ ((rd_T109 y293 (ji7)).f1) from ge296_1)
                    clear hv296_1 ge296_1
                    have HX296_1 := Aside0.mk hx296_1
                    clear hcc296 hce296
                    have HR296_1 := Aside0.mk hi296_1
                    have HC296_1 := Aside0.mk hl296_1
                    clear hi296_1 hl296_1
                    replace p296 := eq_true p296
                    replace q296 := eq_true q296
                    have p297 : 0 ≤ (x8_1 : Int) := of_decide_eq_true (by first | (with_reducible assumption) | assumption)
                    have q297 : x8_1 < (l1.length : Int) := of_decide_eq_true (by first | (with_reducible assumption) | assumption)
                    obtain ⟨ad297, e297, hx297_0, hx297_1⟩ := at_T52 HR1.out x8_1 p297 q297
                    have hw297_1 := hx297_1
                    have hw297_0 := hx297_0
                    cases e297
                    replace hx297_0 := (HB.out.cell (World.block_lt_of_cell? w _ hx297_0)).trans hx297_0
                    replace hx297_1 := (HB.out.cell (World.block_lt_of_cell? w _ hx297_1)).trans hx297_1
                    replace p297 := eq_true p297
                    replace q297 := eq_true q297
                    obtain ⟨go17, co17, eo17, gb17, gl17, cl17, HG17⟩ := Kd.S_form HO295.out (by have h_ : ((ji7) : Int) < ((y293.length : Int) : Int) := of_decide_eq_true (by first | (with_reducible assumption) | assumption); have h2_ : 0 ≤ ((ji7) : Int) := (of_decide_eq_true (by first | (with_reducible assumption) | assumption)); omega)
                    (first | cases eo17 | (injection eo17 with ea_ en_ ec_; (first | subst ea_ | (injection ea_ with ea_; subst ea_)); subst ec_; clear en_))
                    have GB17 := Aside0.mk gb17
                    have GG17 := Aside0.mk HG17
                    clear gb17 gl17 HG17
                    (first | simp only [add_plain] at hx296_0 | skip)
                    (first | simp only [add_plain] at hx296_1 | skip)
                    obtain ⟨oki17, ce17, hcl17, hM17, hcc17, _, _, hH17⟩ := Kd.S_elem HO295.out z109 ((ji7) : Int) (of_decide_eq_true (by first | (with_reducible assumption) | assumption)) (by have h_ : ((ji7) : Int) < ((y293.length : Int) : Int) := of_decide_eq_true (by first | (with_reducible assumption) | assumption); first | exact h_ | (have e_ := (Kd.S_reads' HO295.out).1; omega) | simpa using h_)
                    obtain ⟨ve17_1, rfl, ge17_1⟩ := k109_openM hM17
                    have hv17 := hcc17 1 _ rfl
                    have hX17 := HX296_1.out
                    (try simp only [add_plain] at hX17)
                    (try simp only [Nat.add_zero] at hv17)
                    replace hv17 := Option.some.inj (hv17.symm.trans hX17)
                    subst hv17
                    clear hX17 hcc17 hcl17
                    have UU17 := Aside0.mk (show Kd.R k52 52 _ w.heap.size oki17 (.slice A296_1 ((rd_T109 y293 (ji7)).f1).length c296_1) ((rd_T109 y293 (ji7)).f1) from ge17_1)
                    have HH17 := Aside0.mk hH17
                    have HN17 := Aside0.mk (Kd.S_reads' HO295.out).1
                    clear hH17 ge17_1
                    refine start_ (n := 16) (S := fun w' => w'.cell? ⟨go17, ((ji7)).toNat * 2, none⟩ = some (.int .i64 ((rd_T109 y293 (ji7)).f0)) ∧ w'.cell? ⟨go17, ((ji7)).toNat * 2 + 1, none⟩ = some (.slice A296_1 ((rd_T109 y293 (ji7)).f1).length c296_1) ∧ w'.cell? (ad297.add ((x8_1).toNat * 2)) = some (.int .i64 ((rd_T52 l1 x8_1).f0)) ∧ w'.cell? ⟨(ad297.add ((x8_1).toNat * 2)).block, (ad297.add ((x8_1).toNat * 2)).off + 1, none⟩ = some (.int .i64 ((rd_T52 l1 x8_1).f1))) (ds := [15]) #[false, false, false, false, false, false, false, false, false, false, false, false, false, false, false, false] (by kernel_rfl) rfl rfl ⟨hx296_0, hx296_1, ((HB.out.cell (World.block_lt_of_cell? w _ hw297_0)).trans hw297_0), ((HB.out.cell (World.block_lt_of_cell? w _ hw297_1)).trans hw297_1)⟩ (fun hHeld => ?_); refine with_tabW marigraphref09_Cut.tab9 marigraphref09_Cut.bits9 (fun HT_ HW_ => ?_)
                    generalize w14.drew = w15 at HO295 HB GG17 HH17 HL296_1 HR296_1 HX296_1 UU17 hx296_0 hx296_1 hx297_0 hx297_1 hHeld ⊢
                    refine pure_ (i := 0) (N := some 39) (v := ?_) (a' := ?_) #[true, false, false, false, false, false, false, false, false, false, false, false, false, false, false, false] rfl rfl (any_of HT_.out (by kernel_rfl)) (fun _ _ _ h => h) (Or.inl ⟨by rfl, ?_⟩) ?_ ?_
                    rotate_left
                    · intro w'
                      go_simp
                      with_reducible rfl
                    rotate_left
                    · simp only [Act.put, List.setIfInBounds_toArray, List.set_cons_zero, List.set_cons_succ, i64_w, i32_w]
                      rfl
                    refine pure_ (i := 1) (N := some 40) (v := ?_) (a' := ?_) #[true, true, false, false, false, false, false, false, false, false, false, false, false, false, false, false] rfl rfl (any_of HT_.out (by kernel_rfl)) (fun _ _ _ h => h) (Or.inl ⟨by rfl, ?_⟩) ?_ ?_
                    rotate_left
                    · intro w'
                      go_simp
                      with_reducible rfl
                    rotate_left
                    · simp only [Act.put, List.setIfInBounds_toArray, List.set_cons_zero, List.set_cons_succ, i64_w, i32_w]
                      rfl
                    refine pure_ (i := 2) (N := some 41) (v := ?_) (a' := ?_) #[true, true, true, false, false, false, false, false, false, false, false, false, false, false, false, false] rfl rfl (any_of HT_.out (by kernel_rfl)) (fun _ _ _ h => h) (Or.inl ⟨by rfl, ?_⟩) ?_ ?_
                    rotate_left
                    · intro w'
                      go_simp
                      with_reducible rfl
                    rotate_left
                    · simp only [Act.put, List.setIfInBounds_toArray, List.set_cons_zero, List.set_cons_succ, i64_w, i32_w]
                      rfl
                    refine pure_ (i := 3) (N := some 42) (v := ?_) (a' := ?_) #[true, true, true, true, false, false, false, false, false, false, false, false, false, false, false, false] rfl rfl (any_of HT_.out (by kernel_rfl)) (fun _ _ _ h => h) (Or.inl ⟨by rfl, ?_⟩) ?_ ?_
                    rotate_left
                    · intro w'
                      go_simp
                      with_reducible rfl
                    rotate_left
                    · simp only [Act.put, List.setIfInBounds_toArray, List.set_cons_zero, List.set_cons_succ, i64_w, i32_w]
                      rfl
                    refine pure_ (i := 4) (N := some 43) (v := ?_) (a' := ?_) #[true, true, true, true, true, false, false, false, false, false, false, false, false, false, false, false] rfl rfl (any_of HT_.out (by kernel_rfl)) (fun _ _ _ h => h) (Or.inl ⟨by rfl, ?_⟩) ?_ ?_
                    rotate_left
                    · intro w'
                      go_simp
                      with_reducible rfl
                    rotate_left
                    · simp only [Act.put, List.setIfInBounds_toArray, List.set_cons_zero, List.set_cons_succ, i64_w, i32_w]
                      rfl
                    refine pure_ (i := 5) (N := some 44) (v := ?_) (a' := ?_) #[true, true, true, true, true, true, false, false, false, false, false, false, false, false, false, false] rfl rfl (any_of HT_.out (by kernel_rfl)) (fun _ _ _ h => h) (Or.inl ⟨by rfl, ?_⟩) ?_ ?_
                    rotate_left
                    · intro w'
                      go_simp
                      with_reducible rfl
                    rotate_left
                    · simp only [Act.put, List.setIfInBounds_toArray, List.set_cons_zero, List.set_cons_succ, i64_w, i32_w]
                      rfl
                    refine pure_ (i := 7) (N := some 46) (v := ?_) (a' := ?_) #[true, true, true, true, true, true, false, true, false, false, false, false, false, false, false, false] rfl rfl (any_of HT_.out (by kernel_rfl)) (fun _ _ _ h => h) (Or.inl ⟨by rfl, ?_⟩) ?_ ?_
                    rotate_left
                    · intro w'
                      go_simp
                      with_reducible rfl
                    rotate_left
                    · simp only [Act.put, List.setIfInBounds_toArray, List.set_cons_zero, List.set_cons_succ, i64_w, i32_w]
                      rfl
                    refine pure_ (i := 8) (N := some 47) (v := ?_) (a' := ?_) #[true, true, true, true, true, true, false, true, true, false, false, false, false, false, false, false] rfl rfl (any_of HT_.out (by kernel_rfl)) (fun _ _ _ h => h) (Or.inl ⟨by rfl, ?_⟩) ?_ ?_
                    rotate_left
                    · intro w'
                      go_simp
                      with_reducible rfl
                    rotate_left
                    · simp only [Act.put, List.setIfInBounds_toArray, List.set_cons_zero, List.set_cons_succ, i64_w, i32_w]
                      rfl
                    refine pure_ (i := 9) (N := some 48) (v := ?_) (a' := ?_) #[true, true, true, true, true, true, false, true, true, true, false, false, false, false, false, false] rfl rfl (any_of HT_.out (by kernel_rfl)) (fun _ _ _ h => h) (Or.inl ⟨by rfl, ?_⟩) ?_ ?_
                    rotate_left
                    · intro w'
                      go_simp
                      with_reducible rfl
                    rotate_left
                    · simp only [Act.put, List.setIfInBounds_toArray, List.set_cons_zero, List.set_cons_succ, i64_w, i32_w]
                      rfl
                    refine take_ (i := 6) (N := some 45) (v := ?_) (a' := ?_) #[true, true, true, true, true, true, true, true, true, true, false, false, false, false, false, false] rfl rfl (take_ofW HT_.out HW_.out (by kernel_rfl)) (fun _ _ _ h => h) (Or.inl ⟨by rfl, ?_⟩) hHeld ?_ ?_
                    rotate_left
                    · rintro w' ⟨s0, s1, s2, s3⟩
                      go_simp
                      with_reducible rfl
                    rotate_left
                    · simp only [Act.put, List.setIfInBounds_toArray, List.set_cons_zero, List.set_cons_succ, i64_w, i32_w]
                      rfl
                    refine take_ (i := 10) (N := some 49) (v := ?_) (a' := ?_) #[true, true, true, true, true, true, true, true, true, true, true, false, false, false, false, false] rfl rfl (take_ofW HT_.out HW_.out (by kernel_rfl)) (fun _ _ _ h => h) (Or.inl ⟨by rfl, ?_⟩) hHeld ?_ ?_
                    rotate_left
                    · rintro w' ⟨s0, s1, s2, s3⟩
                      go_simp
                      with_reducible rfl
                    rotate_left
                    · simp only [Act.put, List.setIfInBounds_toArray, List.set_cons_zero, List.set_cons_succ, i64_w, i32_w]
                      rfl
                    refine one_ (i := 11) (N := some 50) #[true, true, true, true, true, true, true, true, true, true, true, true, false, false, false, false] rfl rfl (one_of HT_.out (by kernel_rfl)) (by decide) (fun K hK => ?_)
                    refine value_ (w1 := ?_) (v := ?_) (by rfl) rfl ?_ ?_
                    rotate_left 2
                    · go_simp
                      constructor
                      · rfl
                      · rfl
                    refine hK.out _ _ ⟨(World.cell?_alloc_lt _ _ _ (World.block_lt_of_cell? _ _ (hHeld.1))).trans (hHeld.1), (World.cell?_alloc_lt _ _ _ (World.block_lt_of_cell? _ _ (hHeld.2.1))).trans (hHeld.2.1), (World.cell?_alloc_lt _ _ _ (World.block_lt_of_cell? _ _ (((HB.out.cell (World.block_lt_of_cell? w _ hw297_0)).trans hw297_0)))).trans (((HB.out.cell (World.block_lt_of_cell? w _ hw297_0)).trans hw297_0)), (World.cell?_alloc_lt _ _ _ (World.block_lt_of_cell? _ _ (((HB.out.cell (World.block_lt_of_cell? w _ hw297_1)).trans hw297_1)))).trans (((HB.out.cell (World.block_lt_of_cell? w _ hw297_1)).trans hw297_1))⟩ (fun hHeld => ?_)
                    clear hK K
                    refine norm_ (a' := ?_) ?_ ?_
                    rotate_left
                    · show Act.put _ (some 50) _ = _
                      simp only [Act.put, List.setIfInBounds_toArray, List.set_cons_zero, List.set_cons_succ, i64_w, i32_w]
                      rfl
                    refine one_ (i := 12) (N := some 51) #[true, true, true, true, true, true, true, true, true, true, true, true, true, false, false, false] rfl rfl (one_of HT_.out (by kernel_rfl)) (by decide) (fun K hK => ?_)
                    refine Kd.R_append_step k52 (w0 := w) w.heap.size (by rfl) (.tmp 45) (.tmp 50) 44 52 (.agg #[(.int .i64 0), (.int .i64 0)]) 16 rfl Try.underlying44 info52 rfl (by decide) (by omega) (.slice A296_1 ((rd_T109 y293 (ji7)).f1).length c296_1) ((rd_T109 y293 (ji7)).f1) (⟨(rd_T52 l1 x8_1).f0, (rd_T52 l1 x8_1).f1⟩ : S52) [.int .i64 ((rd_T52 l1 x8_1).f0), .int .i64 ((rd_T52 l1 x8_1).f1)] (fun k_ => oki17 k_ ∨ ((fun _ => True)) k_ ∧ w15.heap.size ≤ k_) (fun _ => False) rfl rfl ?aP (fun _ hk => hk.elim) ?aF ?aO ?aB ?aS ?aL ?_
                    (case aP => exact k52_mkM _ _ _ (⟨(rd_T52 l1 x8_1).f0, (rd_T52 l1 x8_1).f1⟩ : S52))
                    (case aB => exact (by repeat (first | (with_reducible first | exact HB.out | apply below_alloc | apply pw_below_drewN | apply below_drew1) | exact HB.out)))
                    (case aF => exact (fun k_ hk => .inr ⟨trivial, hk⟩))
                    (case aO => exact (by (with_reducible repeat (first | apply Kd.R_alloc | apply Kd.R_drewN | apply Kd.R_drew)); exact Kd.R_mono UU17.out (fun _ hk => .inl hk)))
                    (case aS => exact (below_size (by repeat (first | (with_reducible first | exact HB.out | apply below_alloc | apply pw_below_drewN | apply below_drew1) | exact HB.out))))
                    (case aL => have := LMc11.out; omega)
                    intro v299 w18 ho hb hg hat
                    (first | have HS0_ := cell_grown hg (hHeld.1) (by first | (rw [add_block]; exact (fun e_ => ((HL296_1.out.1 _ e_.symm).2) rfl)) | (show some (Addr.add _ _).block ≠ _; rw [add_block]; exact (fun e_ => ((HL296_1.out.1 _ e_.symm).2) rfl)) | exact (fun e_ => ((HL296_1.out.1 _ e_.symm).2) rfl)) | have HS0_ := cell_grown hg (cell_unalloc (hHeld.1) (by first | (rw [add_block]; exact Kd.S_lt HO295.out _ rfl) | (show (Addr.add _ _).block < _; rw [add_block]; exact Kd.S_lt HO295.out _ rfl) | exact Kd.S_lt HO295.out _ rfl)) (by first | (rw [add_block]; exact (fun e_ => ((HL296_1.out.1 _ e_.symm).2) rfl)) | (show some (Addr.add _ _).block ≠ _; rw [add_block]; exact (fun e_ => ((HL296_1.out.1 _ e_.symm).2) rfl)) | exact (fun e_ => ((HL296_1.out.1 _ e_.symm).2) rfl)))
                    (first | have HS1_ := cell_grown hg (hHeld.2.1) (by first | (rw [add_block]; exact (fun e_ => ((HL296_1.out.1 _ e_.symm).2) rfl)) | (show some (Addr.add _ _).block ≠ _; rw [add_block]; exact (fun e_ => ((HL296_1.out.1 _ e_.symm).2) rfl)) | exact (fun e_ => ((HL296_1.out.1 _ e_.symm).2) rfl)) | have HS1_ := cell_grown hg (cell_unalloc (hHeld.2.1) (by first | (rw [add_block]; exact Kd.S_lt HO295.out _ rfl) | (show (Addr.add _ _).block < _; rw [add_block]; exact Kd.S_lt HO295.out _ rfl) | exact Kd.S_lt HO295.out _ rfl)) (by first | (rw [add_block]; exact (fun e_ => ((HL296_1.out.1 _ e_.symm).2) rfl)) | (show some (Addr.add _ _).block ≠ _; rw [add_block]; exact (fun e_ => ((HL296_1.out.1 _ e_.symm).2) rfl)) | exact (fun e_ => ((HL296_1.out.1 _ e_.symm).2) rfl)))
                    rw [← Ny298.out] at ho
                    have n0_ := Aside0.mk (hb)
                    have n1_ := Aside0.mk (Kd.H_grown (Kd.H_widen (by repeat (first | exact HH17.out | refine Kd.H_alloc ?_ _ | refine Kd.H_drewN ?_ _ | refine Kd.H_drew ?_))) hg (fun k_ e_ => .inl (UU17.out.1 k_ e_)))
                    have n2_ := Aside0.mk (ho)
                    clear HB
                    clear HH17
                    clear HO295
                    clear UU17
                    clear HL296_1
                    have HB := n0_
                    have HH17 := n1_
                    have HO300 := n2_
                    clear n0_ n1_ n2_
                    clear ho hb hg hat
                    have p12 : 0 ≤ ((ji7) : Int) := of_decide_eq_true (by first | (with_reducible assumption) | assumption)
                    have q12 : ((ji7) : Int) < ((y293.length : Int) : Int) := of_decide_eq_true (by first | (with_reducible assumption) | assumption)
                    replace p12 := eq_true p12
                    replace q12 := eq_true q12
                    obtain ⟨Ao21, co21, eo21⟩ := Kd.R_slice HO300.out
                    (first | subst eo21 | (injection eo21 with f1_ f2_ f3_; have f4_ := f1_.symm; have f5_ := f3_.symm; clear f1_ f2_ f3_; subst f4_; subst f5_))
                    obtain ⟨_, _, hraw19, _, _, hcc19, _⟩ := Kd.H_raw HH17.out (of_decide_eq_true (by first | (with_reducible assumption) | assumption)) (by have h_ : ((ji7) : Int) < ((y293.length : Int) : Int) := of_decide_eq_true (by first | (with_reducible assumption) | assumption); first | exact h_ | (have e_ := (HN17.out); omega) | simpa using h_)
                    obtain ⟨_, hfr19⟩ := Kd.H_at HH17.out (of_decide_eq_true (by first | (with_reducible assumption) | assumption)) (by have h_ : ((ji7) : Int) < ((y293.length : Int) : Int) := of_decide_eq_true (by first | (with_reducible assumption) | assumption); first | exact h_ | (have e_ := (HN17.out); omega) | simpa using h_)
                    have hx19_0 := hcc19 1 _ rfl
                    have hf19_0 := hfr19 1
                    (try rw [show (k109).sz = 2 from rfl] at hx19_0)
                    (try rw [show (k109).sz = 2 from rfl] at hf19_0)
                    have HP19 := Kd.S_seg0 HH17.out (of_decide_eq_true (by first | (with_reducible assumption) | assumption)) (by have h_ : ((ji7) : Int) < ((y293.length : Int) : Int) := of_decide_eq_true (by first | (with_reducible assumption) | assumption); first | exact h_ | (have e_ := (HN17.out); omega) | simpa using h_) (seg := [.slice Ao21 y298.length co21]) (j := 1) (show 2 ≤ 2 from by decide) (x' := (⟨(rd_T109 y293 (ji7)).f0, y298⟩ : S109)) (k109_mkM _ _ _ (⟨(rd_T109 y293 (ji7)).f0, y298⟩ : S109) HO300.out) (fun _ hk => hk)
                    clear hcc19 hfr19
                    have HS19 := HP19.1
                    rw [← Ny301.out] at HS19
                    have HQ19 := Aside0.mk HS19
                    obtain ⟨_, hgg19⟩ := Kd.R_typed hraw19 go17 rfl
                    have GG19_ := Aside0.mk hgg19
                    clear HP19 HS19 hgg19
                    refine hK.out _ _ ⟨HS0_, HS1_, ((HB.out.cell (World.block_lt_of_cell? w _ hw297_0)).trans hw297_0), ((HB.out.cell (World.block_lt_of_cell? w _ hw297_1)).trans hw297_1)⟩ (fun hHeld => ?_)
                    clear hK K
                    refine norm_ (a' := ?_) ?_ ?_
                    rotate_left
                    · show Act.put _ (some 51) _ = _
                      simp only [Act.put, List.setIfInBounds_toArray, List.set_cons_zero, List.set_cons_succ, i64_w, i32_w]
                      rfl
                    refine pure_ (i := 13) (N := some 52) (v := ?_) (a' := ?_) #[true, true, true, true, true, true, true, true, true, true, true, true, true, true, false, false] rfl rfl (any_of HT_.out (by kernel_rfl)) (fun _ _ _ h => h) (Or.inl ⟨by rfl, ?_⟩) ?_ ?_
                    rotate_left
                    · intro w'
                      go_simp
                      with_reducible rfl
                    rotate_left
                    · simp only [Act.put, List.setIfInBounds_toArray, List.set_cons_zero, List.set_cons_succ, i64_w, i32_w]
                      rfl
                    refine pure_ (i := 14) (N := some 53) (v := ?_) (a' := ?_) #[true, true, true, true, true, true, true, true, true, true, true, true, true, true, true, false] rfl rfl (any_of HT_.out (by kernel_rfl)) (fun _ _ _ h => h) (Or.inl ⟨by rfl, ?_⟩) ?_ ?_
                    rotate_left
                    · intro w'
                      go_simp
                      with_reducible rfl
                    rotate_left
                    · simp only [Act.put, List.setIfInBounds_toArray, List.set_cons_zero, List.set_cons_succ, i64_w, i32_w]
                      rfl
                    refine last_ (i := 15) (N := none) #[true, true, true, true, true, true, true, true, true, true, true, true, true, true, true, true] rfl rfl (one_of HT_.out (by kernel_rfl)) (by decide) (fun K hK => ?_)
                    refine skip_ (w1 := ?_) (by rfl) rfl ?_ ?_
                    rotate_left
                    · go_simp
                      rfl
                    refine hK.out _ _ ?_
                    clear hK K
                    refine done_ (done_of HT_.out (by kernel_rfl)) ?_
                    try go_wp2
                    go_roundg k1
                    case measure => have := HK1.out; omega
                    case rel => exact ⟨(y301), (wrap64 (x8_1 + 1)), (by first | rfl | (simp; done) | (simp [*]; done) | (simp <;> grind)), (by first | exact H' | (simp only [hji7]; exact H')), ⟨by have := HK1.out; omega⟩, ⟨by (with_reducible repeat (first | apply Kd.S_alloc | apply Kd.S_drewN | apply Kd.S_drew)); exact HQ19.out⟩, ⟨by repeat (first | (with_reducible first | exact HB.out | apply below_alloc | apply pw_below_drewN | apply below_drew1 | refine below_set ?_ GB17.out) | exact HB.out)⟩⟩
                  · rw [if_neg c11] at H
                    exact absurd H (by simp)
                · rw [if_neg c10] at H
                  exact absurd H (by simp)
              · rw [if_neg c9] at H
                exact absurd H (by simp)
            · rw [if_neg c8] at H
              exact absurd H (by simp)
          · rw [if_neg c6] at H
            exact absurd H (by simp)
        · rw [if_neg c5] at H
          have c5b0 : decide ((wrap64 ((x7_1.length : Int) - 1)) < 0) = false := decide_eq_false c5
          clear c5
          obtain ⟨ji22, hji22⟩ : ∃ j_ : Int, (wrap64 ((x7_1.length : Int) - 1)) = j_ := ⟨_, rfl⟩
          replace H : (if 0 ≤ (ji22) then (if (ji22) < (x7_1.length : Int) then (if (((rd_T109 x7_1 (ji22)).f1).length : Int) ≥ (mx a2 1) then (if x7_1.length < 4398046511104 then ((some (x7_1 ++ [(⟨a0, ([] : List (S52))⟩ : S109)] : List (S109))).bind fun y303 => (if 0 ≤ (wrap64 ((ji22) + 1)) then (if (wrap64 ((ji22) + 1)) < (y303.length : Int) then (if 0 ≤ x8_1 then (if ((rd_T109 y303 (wrap64 ((ji22) + 1))).f1).length < 8796093022208 then (marigraphref09_Cut.l0 k1 a0 l1 a2 (y303.set ((wrap64 ((ji22) + 1)) : Int).toNat (⟨(rd_T109 y303 (wrap64 ((ji22) + 1))).f0, (((rd_T109 y303 (wrap64 ((ji22) + 1))).f1) ++ [(⟨(rd_T52 l1 x8_1).f0, (rd_T52 l1 x8_1).f1⟩ : S52)])⟩ : S109)) (wrap64 (x8_1 + 1))) else (none)) else (none)) else (none)) else (none))) else (none)) else (if 0 ≤ x8_1 then (if ((rd_T109 x7_1 (ji22)).f1).length < 8796093022208 then (marigraphref09_Cut.l0 k1 a0 l1 a2 (x7_1.set ((ji22) : Int).toNat (⟨(rd_T109 x7_1 (ji22)).f0, (((rd_T109 x7_1 (ji22)).f1) ++ [(⟨(rd_T52 l1 x8_1).f0, (rd_T52 l1 x8_1).f1⟩ : S52)])⟩ : S109)) (wrap64 (x8_1 + 1))) else (none)) else (none))) else (none)) else (none)) = some r := by first | (rw [hji22] at H; exact H) | (simp only [hji22] at H ⊢; exact H)
          (try rw [hji22] at c5b0)
          have hji22w : (IntKind.i64.wrap ((x7_1.length : Int) - 1)) = ji22 := (i64_w _).trans hji22
          by_cases c23 : 0 ≤ (ji22)
          · rw [if_pos c23] at H
            have c23b0 : decide (0 ≤ (ji22)) = true := decide_eq_true c23
            clear c23
            by_cases c24 : (ji22) < (x7_1.length : Int)
            · rw [if_pos c24] at H
              have c24b0 : decide ((ji22) < (x7_1.length : Int)) = true := decide_eq_true c24
              clear c24
              obtain ⟨ji25, hji25⟩ : ∃ j_ : Int, (mx a2 1) = j_ := ⟨_, rfl⟩
              replace H : (if (((rd_T109 x7_1 (ji22)).f1).length : Int) ≥ (ji25) then (if x7_1.length < 4398046511104 then ((some (x7_1 ++ [(⟨a0, ([] : List (S52))⟩ : S109)] : List (S109))).bind fun y303 => (if 0 ≤ (wrap64 ((ji22) + 1)) then (if (wrap64 ((ji22) + 1)) < (y303.length : Int) then (if 0 ≤ x8_1 then (if ((rd_T109 y303 (wrap64 ((ji22) + 1))).f1).length < 8796093022208 then (marigraphref09_Cut.l0 k1 a0 l1 a2 (y303.set ((wrap64 ((ji22) + 1)) : Int).toNat (⟨(rd_T109 y303 (wrap64 ((ji22) + 1))).f0, (((rd_T109 y303 (wrap64 ((ji22) + 1))).f1) ++ [(⟨(rd_T52 l1 x8_1).f0, (rd_T52 l1 x8_1).f1⟩ : S52)])⟩ : S109)) (wrap64 (x8_1 + 1))) else (none)) else (none)) else (none)) else (none))) else (none)) else (if 0 ≤ x8_1 then (if ((rd_T109 x7_1 (ji22)).f1).length < 8796093022208 then (marigraphref09_Cut.l0 k1 a0 l1 a2 (x7_1.set ((ji22) : Int).toNat (⟨(rd_T109 x7_1 (ji22)).f0, (((rd_T109 x7_1 (ji22)).f1) ++ [(⟨(rd_T52 l1 x8_1).f0, (rd_T52 l1 x8_1).f1⟩ : S52)])⟩ : S109)) (wrap64 (x8_1 + 1))) else (none)) else (none))) = some r := by first | (rw [hji25] at H; exact H) | (simp only [hji25] at H ⊢; exact H)
              (try (have hji25l : 1 ≤ ji25 := by (rw [← hji25]; unfold mx; (repeat' split) <;> omega)))
              (try (have hji25m : 0 ≤ ji25 := by omega))
              have hji25_ : (if a2 < 1 then 1 else a2) = ji25 := hji25
              by_cases c26 : (((rd_T109 x7_1 (ji22)).f1).length : Int) ≥ (ji25)
              · rw [if_pos c26] at H
                have c26b0 : decide ((ji25) ≤ (((rd_T109 x7_1 (ji22)).f1).length : Int)) = true := decide_eq_true c26
                clear c26
                by_cases c27 : x7_1.length < 4398046511104
                · rw [if_pos c27] at H
                  have LMc27 := Aside0.mk c27
                  clear c27
                  obtain ⟨y303, hy303⟩ : ∃ y_ : List (S109), y_ = (x7_1 ++ [(⟨a0, ([] : List (S52))⟩ : S109)]) := ⟨_, rfl⟩
                  replace H : (if 0 ≤ (wrap64 ((ji22) + 1)) then (if (wrap64 ((ji22) + 1)) < (y303.length : Int) then (if 0 ≤ x8_1 then (if ((rd_T109 y303 (wrap64 ((ji22) + 1))).f1).length < 8796093022208 then (marigraphref09_Cut.l0 k1 a0 l1 a2 (y303.set ((wrap64 ((ji22) + 1)) : Int).toNat (⟨(rd_T109 y303 (wrap64 ((ji22) + 1))).f0, (((rd_T109 y303 (wrap64 ((ji22) + 1))).f1) ++ [(⟨(rd_T52 l1 x8_1).f0, (rd_T52 l1 x8_1).f1⟩ : S52)])⟩ : S109)) (wrap64 (x8_1 + 1))) else (none)) else (none)) else (none)) else (none)) = some r := by first | (rw [hy303]; with_reducible exact H) | (have H2_ := (Option.bind_some _ _).symm.trans H; rw [hy303]; with_reducible exact H2_) | (have H2_ := (Option.bind_some _ _).symm.trans H; with_reducible exact H2_) | with_reducible exact H | (rw [hy303]; exact H) | exact H
                  have Ny303 := Aside0.mk hy303
                  clear hy303
                  obtain ⟨ji28, hji28⟩ : ∃ j_ : Int, (wrap64 ((ji22) + 1)) = j_ := ⟨_, rfl⟩
                  replace H : (if 0 ≤ (ji28) then (if (ji28) < (y303.length : Int) then (if 0 ≤ x8_1 then (if ((rd_T109 y303 (ji28)).f1).length < 8796093022208 then (marigraphref09_Cut.l0 k1 a0 l1 a2 (y303.set ((ji28) : Int).toNat (⟨(rd_T109 y303 (ji28)).f0, (((rd_T109 y303 (ji28)).f1) ++ [(⟨(rd_T52 l1 x8_1).f0, (rd_T52 l1 x8_1).f1⟩ : S52)])⟩ : S109)) (wrap64 (x8_1 + 1))) else (none)) else (none)) else (none)) else (none)) = some r := by first | (rw [hji28] at H; exact H) | (simp only [hji28] at H ⊢; exact H)
                  have hji28w : (IntKind.i64.wrap ((ji22) + 1)) = ji28 := (i64_w _).trans hji28
                  by_cases c29 : 0 ≤ (ji28)
                  · rw [if_pos c29] at H
                    have c29b0 : decide (0 ≤ (ji28)) = true := decide_eq_true c29
                    clear c29
                    by_cases c30 : (ji28) < (y303.length : Int)
                    · rw [if_pos c30] at H
                      have c30b0 : decide ((ji28) < (y303.length : Int)) = true := decide_eq_true c30
                      clear c30
                      by_cases c31 : 0 ≤ x8_1
                      · rw [if_pos c31] at H
                        have c31b0 : decide (0 ≤ x8_1) = true := decide_eq_true c31
                        clear c31
                        by_cases c32 : ((rd_T109 y303 (ji28)).f1).length < 8796093022208
                        · rw [if_pos c32] at H
                          have LMc32 := Aside0.mk c32
                          clear c32
                          obtain ⟨y308, hy308⟩ : ∃ y_ : List (S52), y_ = (((rd_T109 y303 (ji28)).f1) ++ [(⟨(rd_T52 l1 x8_1).f0, (rd_T52 l1 x8_1).f1⟩ : S52)]) := ⟨_, rfl⟩
                          replace H : (marigraphref09_Cut.l0 k1 a0 l1 a2 (y303.set ((ji28) : Int).toNat (⟨(rd_T109 y303 (ji28)).f0, y308⟩ : S109)) (wrap64 (x8_1 + 1))) = some r := by first | (rw [hy308]; with_reducible exact H) | (have H2_ := (Option.bind_some _ _).symm.trans H; rw [hy308]; with_reducible exact H2_) | (have H2_ := (Option.bind_some _ _).symm.trans H; with_reducible exact H2_) | with_reducible exact H | (rw [hy308]; exact H) | exact H
                          have Ny308 := Aside0.mk hy308
                          clear hy308
                          obtain ⟨y311, hy311⟩ : ∃ y_ : List (S109), y_ = (y303.set ((ji28) : Int).toNat (⟨(rd_T109 y303 (ji28)).f0, y308⟩ : S109)) := ⟨_, rfl⟩
                          replace H : (marigraphref09_Cut.l0 k1 a0 l1 a2 y311 (wrap64 (x8_1 + 1))) = some r := by first | (rw [hy311]; with_reducible exact H) | (have H2_ := (Option.bind_some _ _).symm.trans H; rw [hy311]; with_reducible exact H2_) | (have H2_ := (Option.bind_some _ _).symm.trans H; with_reducible exact H2_) | with_reducible exact H | (rw [hy311]; exact H) | exact H
                          have Ny311 := Aside0.mk hy311
                          clear hy311
                          have H' := Aside0.mk H
                          clear H
                          obtain ⟨Ao34, co34, eo34⟩ := Kd.S_slice HO_7.out
                          subst eo34
                          have p302 : 0 ≤ ((ji22) : Int) := of_decide_eq_true (by first | (with_reducible assumption) | assumption)
                          have q302 : (ji22) < (x7_1.length : Int) := of_decide_eq_true (by first | (with_reducible assumption) | assumption)
                          obtain ⟨ad302, A302_1, c302_1, e302, hx302_0, hx302_1, hl302_1, hi302_1⟩ := at_T109 (Kd.S_reads' HO_7.out).2.2 (ji22) p302 q302
                          cases e302
                          obtain ⟨ce302, hce302, hMe302, hcc302⟩ := Kd.S_get HO_7.out z109 (ji22) p302 (by first | exact q302 | exact of_decide_eq_true (by first | (with_reducible assumption) | assumption) | (have e_ := (Kd.S_reads' HO_7.out).1; omega))
                          obtain ⟨ve302_1, rfl, ge302_1⟩ := k109_openM hMe302
                          have hv302_1 := hcc302 1 _ rfl
                          rw [add_field _ _ 1 (by omega)] at hv302_1
                          replace hv302_1 := Option.some.inj (hv302_1.symm.trans hx302_1)
                          rw [hv302_1] at ge302_1
                          have HL302_1 := Aside0.mk (show Kd.R k52 52 _ _ _ _ ((rd_T109 x7_1 (ji22)).f1) from ge302_1)
                          clear hv302_1 ge302_1
                          have HX302_1 := Aside0.mk hx302_1
                          clear hcc302 hce302
                          have HR302_1 := Aside0.mk hi302_1
                          have HC302_1 := Aside0.mk hl302_1
                          clear hi302_1 hl302_1
                          replace p302 := eq_true p302
                          replace q302 := eq_true q302
                          try go_wp2_with (first | ((with_reducible refine gate_builtin (b := .append) (xs := #[.tmp 32, .tmp 35]) rfl ?_); at_builtin; refine Kd.S_append k109 (w0 := w) w.heap.size rfl (.tmp 32) (.tmp 35) 66 109 (.agg #[(.int .i64 0), (.slice none 0 0)]) 32 rfl Try.underlying66 info109 rfl (by decide) (by omega) (.slice (some ad302) x7_1.length co34) x7_1 (⟨a0, ([] : List (S52))⟩ : S109) [.int .i64 a0, .slice none 0 0] (fun _ => True) (fun _ => False) rfl rfl ?aP (fun k_ hk_ => hk_.elim) ?aF ?aO ?aB ?aS ?aL ?_; (case aP => exact k109_mkM _ _ _ (⟨a0, ([] : List (S52))⟩ : S109) (Kd.R_nil _ _ _ _ _)); (case aB => exact (by repeat (first | (with_reducible first | exact HB.out | apply below_alloc | apply pw_below_drewN | apply below_drew1) | exact HB.out))); (case aF => exact (fun _ _ => trivial)); (case aO => exact (by (with_reducible repeat (first | apply Kd.S_alloc | apply Kd.S_drewN | apply Kd.S_drew)); exact Kd.S_mono HO_7.out (fun k_ hk => ⟨trivial, fun e_ => e_⟩))); (case aS => exact (below_size (by repeat (first | (with_reducible first | exact HB.out | apply below_alloc | apply pw_below_drewN | apply below_drew1) | exact HB.out)))); (case aL => have := LMc27.out; omega); intro v304 w35 ho hb hg hat; rw [← Ny303.out] at ho; have n0_ := Aside0.mk (Kd.R_after (ok := (fun _ => True)) (by (with_reducible repeat (first | apply Kd.R_alloc | apply Kd.R_drewN | apply Kd.R_drew)); exact HL302_1.out) hg hat); have n1_ := Aside0.mk (hb); have n2_ := Aside0.mk (ho); clear HL302_1; clear HB; clear HO_7; have HL302_1 := n0_; have HB := n1_; have HO305 := n2_; clear n0_ n1_ n2_; clear ho hb hg hat))
                          have n0_ := Aside0.mk (Kd.R_drew HL302_1.out)
                          have n1_ := Aside0.mk (Kd.S_drew HO305.out)
                          have n2_ := Aside0.mk (below_drew1 HB.out)
                          clear HL302_1
                          clear HO305
                          clear HB
                          have HL302_1 := n0_
                          have HO305 := n1_
                          have HB := n2_
                          clear n0_ n1_ n2_
                          obtain ⟨Ao37, co37, eo37⟩ := Kd.S_slice HO305.out
                          (first | subst eo37 | (injection eo37 with f1_ f2_ f3_; have f4_ := f1_.symm; have f5_ := f3_.symm; clear f1_ f2_ f3_; subst f4_; subst f5_))
                          have p306 : 0 ≤ ((ji28) : Int) := of_decide_eq_true (by first | (with_reducible assumption) | assumption)
                          have q306 : (ji28) < (y303.length : Int) := of_decide_eq_true (by first | (with_reducible assumption) | assumption)
                          obtain ⟨ad306, A306_1, c306_1, e306, hx306_0, hx306_1, hl306_1, hi306_1⟩ := at_T109 (Kd.S_reads' HO305.out).2.2 (ji28) p306 q306
                          cases e306
                          obtain ⟨ce306, hce306, hMe306, hcc306⟩ := Kd.S_get HO305.out z109 (ji28) p306 (by first | exact q306 | exact of_decide_eq_true (by first | (with_reducible assumption) | assumption) | (have e_ := (Kd.S_reads' HO305.out).1; omega))
                          obtain ⟨ve306_1, rfl, ge306_1⟩ := k109_openM hMe306
                          have hv306_1 := hcc306 1 _ rfl
                          rw [add_field _ _ 1 (by omega)] at hv306_1
                          replace hv306_1 := Option.some.inj (hv306_1.symm.trans hx306_1)
                          rw [hv306_1] at ge306_1
                          have HL306_1 := Aside0.mk (show Kd.R k52 52 _ _ _ _ ((rd_T109 y303 (ji28)).f1) from ge306_1)
                          clear hv306_1 ge306_1
                          have HX306_1 := Aside0.mk hx306_1
                          clear hcc306 hce306
                          have HR306_1 := Aside0.mk hi306_1
                          have HC306_1 := Aside0.mk hl306_1
                          clear hi306_1 hl306_1
                          replace p306 := eq_true p306
                          replace q306 := eq_true q306
                          have p307 : 0 ≤ (x8_1 : Int) := of_decide_eq_true (by first | (with_reducible assumption) | assumption)
                          have q307 : x8_1 < (l1.length : Int) := of_decide_eq_true (by first | (with_reducible assumption) | assumption)
                          obtain ⟨ad307, e307, hx307_0, hx307_1⟩ := at_T52 HR1.out x8_1 p307 q307
                          have hw307_1 := hx307_1
                          have hw307_0 := hx307_0
                          cases e307
                          replace hx307_0 := (HB.out.cell (World.block_lt_of_cell? w _ hx307_0)).trans hx307_0
                          replace hx307_1 := (HB.out.cell (World.block_lt_of_cell? w _ hx307_1)).trans hx307_1
                          replace p307 := eq_true p307
                          replace q307 := eq_true q307
                          obtain ⟨go38, co38, eo38, gb38, gl38, cl38, HG38⟩ := Kd.S_form HO305.out (by have h_ : ((ji28) : Int) < ((y303.length : Int) : Int) := of_decide_eq_true (by first | (with_reducible assumption) | assumption); have h2_ : 0 ≤ ((ji28) : Int) := (of_decide_eq_true (by first | (with_reducible assumption) | assumption)); omega)
                          (first | cases eo38 | (injection eo38 with ea_ en_ ec_; (first | subst ea_ | (injection ea_ with ea_; subst ea_)); subst ec_; clear en_))
                          have GB38 := Aside0.mk gb38
                          have GG38 := Aside0.mk HG38
                          clear gb38 gl38 HG38
                          (first | simp only [add_plain] at hx306_0 | skip)
                          (first | simp only [add_plain] at hx306_1 | skip)
                          obtain ⟨oki38, ce38, hcl38, hM38, hcc38, _, _, hH38⟩ := Kd.S_elem HO305.out z109 ((ji28) : Int) (of_decide_eq_true (by first | (with_reducible assumption) | assumption)) (by have h_ : ((ji28) : Int) < ((y303.length : Int) : Int) := of_decide_eq_true (by first | (with_reducible assumption) | assumption); first | exact h_ | (have e_ := (Kd.S_reads' HO305.out).1; omega) | simpa using h_)
                          obtain ⟨ve38_1, rfl, ge38_1⟩ := k109_openM hM38
                          have hv38 := hcc38 1 _ rfl
                          have hX38 := HX306_1.out
                          (try simp only [add_plain] at hX38)
                          (try simp only [Nat.add_zero] at hv38)
                          replace hv38 := Option.some.inj (hv38.symm.trans hX38)
                          subst hv38
                          clear hX38 hcc38 hcl38
                          have UU38 := Aside0.mk (show Kd.R k52 52 _ w.heap.size oki38 (.slice A306_1 ((rd_T109 y303 (ji28)).f1).length c306_1) ((rd_T109 y303 (ji28)).f1) from ge38_1)
                          have HH38 := Aside0.mk hH38
                          have HN38 := Aside0.mk (Kd.S_reads' HO305.out).1
                          clear hH38 ge38_1
                          refine start_ (n := 16) (S := fun w' => w'.cell? ⟨go38, ((ji28)).toNat * 2, none⟩ = some (.int .i64 ((rd_T109 y303 (ji28)).f0)) ∧ w'.cell? ⟨go38, ((ji28)).toNat * 2 + 1, none⟩ = some (.slice A306_1 ((rd_T109 y303 (ji28)).f1).length c306_1) ∧ w'.cell? (ad307.add ((x8_1).toNat * 2)) = some (.int .i64 ((rd_T52 l1 x8_1).f0)) ∧ w'.cell? ⟨(ad307.add ((x8_1).toNat * 2)).block, (ad307.add ((x8_1).toNat * 2)).off + 1, none⟩ = some (.int .i64 ((rd_T52 l1 x8_1).f1))) (ds := [15]) #[false, false, false, false, false, false, false, false, false, false, false, false, false, false, false, false] (by kernel_rfl) rfl rfl ⟨hx306_0, hx306_1, ((HB.out.cell (World.block_lt_of_cell? w _ hw307_0)).trans hw307_0), ((HB.out.cell (World.block_lt_of_cell? w _ hw307_1)).trans hw307_1)⟩ (fun hHeld => ?_); refine with_tabW marigraphref09_Cut.tab9 marigraphref09_Cut.bits9 (fun HT_ HW_ => ?_)
                          generalize w35.drew = w36 at HL302_1 HO305 HB GG38 HH38 HL306_1 HR306_1 HX306_1 UU38 hx306_0 hx306_1 hx307_0 hx307_1 hHeld ⊢
                          refine pure_ (i := 0) (N := some 39) (v := ?_) (a' := ?_) #[true, false, false, false, false, false, false, false, false, false, false, false, false, false, false, false] rfl rfl (any_of HT_.out (by kernel_rfl)) (fun _ _ _ h => h) (Or.inl ⟨by rfl, ?_⟩) ?_ ?_
                          rotate_left
                          · intro w'
                            go_simp
                            with_reducible rfl
                          rotate_left
                          · simp only [Act.put, List.setIfInBounds_toArray, List.set_cons_zero, List.set_cons_succ, i64_w, i32_w]
                            rfl
                          refine pure_ (i := 1) (N := some 40) (v := ?_) (a' := ?_) #[true, true, false, false, false, false, false, false, false, false, false, false, false, false, false, false] rfl rfl (any_of HT_.out (by kernel_rfl)) (fun _ _ _ h => h) (Or.inl ⟨by rfl, ?_⟩) ?_ ?_
                          rotate_left
                          · intro w'
                            go_simp
                            with_reducible rfl
                          rotate_left
                          · simp only [Act.put, List.setIfInBounds_toArray, List.set_cons_zero, List.set_cons_succ, i64_w, i32_w]
                            rfl
                          refine pure_ (i := 2) (N := some 41) (v := ?_) (a' := ?_) #[true, true, true, false, false, false, false, false, false, false, false, false, false, false, false, false] rfl rfl (any_of HT_.out (by kernel_rfl)) (fun _ _ _ h => h) (Or.inl ⟨by rfl, ?_⟩) ?_ ?_
                          rotate_left
                          · intro w'
                            go_simp
                            with_reducible rfl
                          rotate_left
                          · simp only [Act.put, List.setIfInBounds_toArray, List.set_cons_zero, List.set_cons_succ, i64_w, i32_w]
                            rfl
                          refine pure_ (i := 3) (N := some 42) (v := ?_) (a' := ?_) #[true, true, true, true, false, false, false, false, false, false, false, false, false, false, false, false] rfl rfl (any_of HT_.out (by kernel_rfl)) (fun _ _ _ h => h) (Or.inl ⟨by rfl, ?_⟩) ?_ ?_
                          rotate_left
                          · intro w'
                            go_simp
                            with_reducible rfl
                          rotate_left
                          · simp only [Act.put, List.setIfInBounds_toArray, List.set_cons_zero, List.set_cons_succ, i64_w, i32_w]
                            rfl
                          refine pure_ (i := 4) (N := some 43) (v := ?_) (a' := ?_) #[true, true, true, true, true, false, false, false, false, false, false, false, false, false, false, false] rfl rfl (any_of HT_.out (by kernel_rfl)) (fun _ _ _ h => h) (Or.inl ⟨by rfl, ?_⟩) ?_ ?_
                          rotate_left
                          · intro w'
                            go_simp
                            with_reducible rfl
                          rotate_left
                          · simp only [Act.put, List.setIfInBounds_toArray, List.set_cons_zero, List.set_cons_succ, i64_w, i32_w]
                            rfl
                          refine pure_ (i := 5) (N := some 44) (v := ?_) (a' := ?_) #[true, true, true, true, true, true, false, false, false, false, false, false, false, false, false, false] rfl rfl (any_of HT_.out (by kernel_rfl)) (fun _ _ _ h => h) (Or.inl ⟨by rfl, ?_⟩) ?_ ?_
                          rotate_left
                          · intro w'
                            go_simp
                            with_reducible rfl
                          rotate_left
                          · simp only [Act.put, List.setIfInBounds_toArray, List.set_cons_zero, List.set_cons_succ, i64_w, i32_w]
                            rfl
                          refine pure_ (i := 7) (N := some 46) (v := ?_) (a' := ?_) #[true, true, true, true, true, true, false, true, false, false, false, false, false, false, false, false] rfl rfl (any_of HT_.out (by kernel_rfl)) (fun _ _ _ h => h) (Or.inl ⟨by rfl, ?_⟩) ?_ ?_
                          rotate_left
                          · intro w'
                            go_simp
                            with_reducible rfl
                          rotate_left
                          · simp only [Act.put, List.setIfInBounds_toArray, List.set_cons_zero, List.set_cons_succ, i64_w, i32_w]
                            rfl
                          refine pure_ (i := 8) (N := some 47) (v := ?_) (a' := ?_) #[true, true, true, true, true, true, false, true, true, false, false, false, false, false, false, false] rfl rfl (any_of HT_.out (by kernel_rfl)) (fun _ _ _ h => h) (Or.inl ⟨by rfl, ?_⟩) ?_ ?_
                          rotate_left
                          · intro w'
                            go_simp
                            with_reducible rfl
                          rotate_left
                          · simp only [Act.put, List.setIfInBounds_toArray, List.set_cons_zero, List.set_cons_succ, i64_w, i32_w]
                            rfl
                          refine pure_ (i := 9) (N := some 48) (v := ?_) (a' := ?_) #[true, true, true, true, true, true, false, true, true, true, false, false, false, false, false, false] rfl rfl (any_of HT_.out (by kernel_rfl)) (fun _ _ _ h => h) (Or.inl ⟨by rfl, ?_⟩) ?_ ?_
                          rotate_left
                          · intro w'
                            go_simp
                            with_reducible rfl
                          rotate_left
                          · simp only [Act.put, List.setIfInBounds_toArray, List.set_cons_zero, List.set_cons_succ, i64_w, i32_w]
                            rfl
                          refine take_ (i := 6) (N := some 45) (v := ?_) (a' := ?_) #[true, true, true, true, true, true, true, true, true, true, false, false, false, false, false, false] rfl rfl (take_ofW HT_.out HW_.out (by kernel_rfl)) (fun _ _ _ h => h) (Or.inl ⟨by rfl, ?_⟩) hHeld ?_ ?_
                          rotate_left
                          · rintro w' ⟨s0, s1, s2, s3⟩
                            go_simp
                            with_reducible rfl
                          rotate_left
                          · simp only [Act.put, List.setIfInBounds_toArray, List.set_cons_zero, List.set_cons_succ, i64_w, i32_w]
                            rfl
                          refine take_ (i := 10) (N := some 49) (v := ?_) (a' := ?_) #[true, true, true, true, true, true, true, true, true, true, true, false, false, false, false, false] rfl rfl (take_ofW HT_.out HW_.out (by kernel_rfl)) (fun _ _ _ h => h) (Or.inl ⟨by rfl, ?_⟩) hHeld ?_ ?_
                          rotate_left
                          · rintro w' ⟨s0, s1, s2, s3⟩
                            go_simp
                            with_reducible rfl
                          rotate_left
                          · simp only [Act.put, List.setIfInBounds_toArray, List.set_cons_zero, List.set_cons_succ, i64_w, i32_w]
                            rfl
                          refine one_ (i := 11) (N := some 50) #[true, true, true, true, true, true, true, true, true, true, true, true, false, false, false, false] rfl rfl (one_of HT_.out (by kernel_rfl)) (by decide) (fun K hK => ?_)
                          refine value_ (w1 := ?_) (v := ?_) (by rfl) rfl ?_ ?_
                          rotate_left 2
                          · go_simp
                            constructor
                            · rfl
                            · rfl
                          refine hK.out _ _ ⟨(World.cell?_alloc_lt _ _ _ (World.block_lt_of_cell? _ _ (hHeld.1))).trans (hHeld.1), (World.cell?_alloc_lt _ _ _ (World.block_lt_of_cell? _ _ (hHeld.2.1))).trans (hHeld.2.1), (World.cell?_alloc_lt _ _ _ (World.block_lt_of_cell? _ _ (((HB.out.cell (World.block_lt_of_cell? w _ hw307_0)).trans hw307_0)))).trans (((HB.out.cell (World.block_lt_of_cell? w _ hw307_0)).trans hw307_0)), (World.cell?_alloc_lt _ _ _ (World.block_lt_of_cell? _ _ (((HB.out.cell (World.block_lt_of_cell? w _ hw307_1)).trans hw307_1)))).trans (((HB.out.cell (World.block_lt_of_cell? w _ hw307_1)).trans hw307_1))⟩ (fun hHeld => ?_)
                          clear hK K
                          refine norm_ (a' := ?_) ?_ ?_
                          rotate_left
                          · show Act.put _ (some 50) _ = _
                            simp only [Act.put, List.setIfInBounds_toArray, List.set_cons_zero, List.set_cons_succ, i64_w, i32_w]
                            rfl
                          refine one_ (i := 12) (N := some 51) #[true, true, true, true, true, true, true, true, true, true, true, true, true, false, false, false] rfl rfl (one_of HT_.out (by kernel_rfl)) (by decide) (fun K hK => ?_)
                          refine Kd.R_append_step k52 (w0 := w) w.heap.size (by rfl) (.tmp 45) (.tmp 50) 44 52 (.agg #[(.int .i64 0), (.int .i64 0)]) 16 rfl Try.underlying44 info52 rfl (by decide) (by omega) (.slice A306_1 ((rd_T109 y303 (ji28)).f1).length c306_1) ((rd_T109 y303 (ji28)).f1) (⟨(rd_T52 l1 x8_1).f0, (rd_T52 l1 x8_1).f1⟩ : S52) [.int .i64 ((rd_T52 l1 x8_1).f0), .int .i64 ((rd_T52 l1 x8_1).f1)] (fun k_ => oki38 k_ ∨ ((fun _ => True)) k_ ∧ w36.heap.size ≤ k_) (fun _ => False) rfl rfl ?aP (fun _ hk => hk.elim) ?aF ?aO ?aB ?aS ?aL ?_
                          (case aP => exact k52_mkM _ _ _ (⟨(rd_T52 l1 x8_1).f0, (rd_T52 l1 x8_1).f1⟩ : S52))
                          (case aB => exact (by repeat (first | (with_reducible first | exact HB.out | apply below_alloc | apply pw_below_drewN | apply below_drew1) | exact HB.out)))
                          (case aF => exact (fun k_ hk => .inr ⟨trivial, hk⟩))
                          (case aO => exact (by (with_reducible repeat (first | apply Kd.R_alloc | apply Kd.R_drewN | apply Kd.R_drew)); exact Kd.R_mono UU38.out (fun _ hk => .inl hk)))
                          (case aS => exact (below_size (by repeat (first | (with_reducible first | exact HB.out | apply below_alloc | apply pw_below_drewN | apply below_drew1) | exact HB.out))))
                          (case aL => have := LMc32.out; omega)
                          intro v309 w39 ho hb hg hat
                          (first | have HS0_ := cell_grown hg (hHeld.1) (by first | (rw [add_block]; exact (fun e_ => ((HL306_1.out.1 _ e_.symm).2) rfl)) | (show some (Addr.add _ _).block ≠ _; rw [add_block]; exact (fun e_ => ((HL306_1.out.1 _ e_.symm).2) rfl)) | exact (fun e_ => ((HL306_1.out.1 _ e_.symm).2) rfl)) | have HS0_ := cell_grown hg (cell_unalloc (hHeld.1) (by first | (rw [add_block]; exact Kd.S_lt HO305.out _ rfl) | (show (Addr.add _ _).block < _; rw [add_block]; exact Kd.S_lt HO305.out _ rfl) | exact Kd.S_lt HO305.out _ rfl)) (by first | (rw [add_block]; exact (fun e_ => ((HL306_1.out.1 _ e_.symm).2) rfl)) | (show some (Addr.add _ _).block ≠ _; rw [add_block]; exact (fun e_ => ((HL306_1.out.1 _ e_.symm).2) rfl)) | exact (fun e_ => ((HL306_1.out.1 _ e_.symm).2) rfl)))
                          (first | have HS1_ := cell_grown hg (hHeld.2.1) (by first | (rw [add_block]; exact (fun e_ => ((HL306_1.out.1 _ e_.symm).2) rfl)) | (show some (Addr.add _ _).block ≠ _; rw [add_block]; exact (fun e_ => ((HL306_1.out.1 _ e_.symm).2) rfl)) | exact (fun e_ => ((HL306_1.out.1 _ e_.symm).2) rfl)) | have HS1_ := cell_grown hg (cell_unalloc (hHeld.2.1) (by first | (rw [add_block]; exact Kd.S_lt HO305.out _ rfl) | (show (Addr.add _ _).block < _; rw [add_block]; exact Kd.S_lt HO305.out _ rfl) | exact Kd.S_lt HO305.out _ rfl)) (by first | (rw [add_block]; exact (fun e_ => ((HL306_1.out.1 _ e_.symm).2) rfl)) | (show some (Addr.add _ _).block ≠ _; rw [add_block]; exact (fun e_ => ((HL306_1.out.1 _ e_.symm).2) rfl)) | exact (fun e_ => ((HL306_1.out.1 _ e_.symm).2) rfl)))
                          rw [← Ny308.out] at ho
                          have n0_ := Aside0.mk (hb)
                          have n1_ := Aside0.mk (Kd.H_grown (Kd.H_widen (by repeat (first | exact HH38.out | refine Kd.H_alloc ?_ _ | refine Kd.H_drewN ?_ _ | refine Kd.H_drew ?_))) hg (fun k_ e_ => .inl (UU38.out.1 k_ e_)))
                          have n2_ := Aside0.mk (ho)
                          clear HB
                          clear HH38
                          clear HO305
                          clear UU38
                          clear HL302_1
                          clear HL306_1
                          have HB := n0_
                          have HH38 := n1_
                          have HO310 := n2_
                          clear n0_ n1_ n2_
                          clear ho hb hg hat
                          have p33 : 0 ≤ ((ji28) : Int) := of_decide_eq_true (by first | (with_reducible assumption) | assumption)
                          have q33 : ((ji28) : Int) < ((y303.length : Int) : Int) := of_decide_eq_true (by first | (with_reducible assumption) | assumption)
                          replace p33 := eq_true p33
                          replace q33 := eq_true q33
                          obtain ⟨Ao42, co42, eo42⟩ := Kd.R_slice HO310.out
                          (first | subst eo42 | (injection eo42 with f1_ f2_ f3_; have f4_ := f1_.symm; have f5_ := f3_.symm; clear f1_ f2_ f3_; subst f4_; subst f5_))
                          obtain ⟨_, _, hraw40, _, _, hcc40, _⟩ := Kd.H_raw HH38.out (of_decide_eq_true (by first | (with_reducible assumption) | assumption)) (by have h_ : ((ji28) : Int) < ((y303.length : Int) : Int) := of_decide_eq_true (by first | (with_reducible assumption) | assumption); first | exact h_ | (have e_ := (HN38.out); omega) | simpa using h_)
                          obtain ⟨_, hfr40⟩ := Kd.H_at HH38.out (of_decide_eq_true (by first | (with_reducible assumption) | assumption)) (by have h_ : ((ji28) : Int) < ((y303.length : Int) : Int) := of_decide_eq_true (by first | (with_reducible assumption) | assumption); first | exact h_ | (have e_ := (HN38.out); omega) | simpa using h_)
                          have hx40_0 := hcc40 1 _ rfl
                          have hf40_0 := hfr40 1
                          (try rw [show (k109).sz = 2 from rfl] at hx40_0)
                          (try rw [show (k109).sz = 2 from rfl] at hf40_0)
                          have HP40 := Kd.S_seg0 HH38.out (of_decide_eq_true (by first | (with_reducible assumption) | assumption)) (by have h_ : ((ji28) : Int) < ((y303.length : Int) : Int) := of_decide_eq_true (by first | (with_reducible assumption) | assumption); first | exact h_ | (have e_ := (HN38.out); omega) | simpa using h_) (seg := [.slice Ao42 y308.length co42]) (j := 1) (show 2 ≤ 2 from by decide) (x' := (⟨(rd_T109 y303 (ji28)).f0, y308⟩ : S109)) (k109_mkM _ _ _ (⟨(rd_T109 y303 (ji28)).f0, y308⟩ : S109) HO310.out) (fun _ hk => hk)
                          clear hcc40 hfr40
                          have HS40 := HP40.1
                          rw [← Ny311.out] at HS40
                          have HQ40 := Aside0.mk HS40
                          obtain ⟨_, hgg40⟩ := Kd.R_typed hraw40 go38 rfl
                          have GG40_ := Aside0.mk hgg40
                          clear HP40 HS40 hgg40
                          refine hK.out _ _ ⟨HS0_, HS1_, ((HB.out.cell (World.block_lt_of_cell? w _ hw307_0)).trans hw307_0), ((HB.out.cell (World.block_lt_of_cell? w _ hw307_1)).trans hw307_1)⟩ (fun hHeld => ?_)
                          clear hK K
                          refine norm_ (a' := ?_) ?_ ?_
                          rotate_left
                          · show Act.put _ (some 51) _ = _
                            simp only [Act.put, List.setIfInBounds_toArray, List.set_cons_zero, List.set_cons_succ, i64_w, i32_w]
                            rfl
                          refine pure_ (i := 13) (N := some 52) (v := ?_) (a' := ?_) #[true, true, true, true, true, true, true, true, true, true, true, true, true, true, false, false] rfl rfl (any_of HT_.out (by kernel_rfl)) (fun _ _ _ h => h) (Or.inl ⟨by rfl, ?_⟩) ?_ ?_
                          rotate_left
                          · intro w'
                            go_simp
                            with_reducible rfl
                          rotate_left
                          · simp only [Act.put, List.setIfInBounds_toArray, List.set_cons_zero, List.set_cons_succ, i64_w, i32_w]
                            rfl
                          refine pure_ (i := 14) (N := some 53) (v := ?_) (a' := ?_) #[true, true, true, true, true, true, true, true, true, true, true, true, true, true, true, false] rfl rfl (any_of HT_.out (by kernel_rfl)) (fun _ _ _ h => h) (Or.inl ⟨by rfl, ?_⟩) ?_ ?_
                          rotate_left
                          · intro w'
                            go_simp
                            with_reducible rfl
                          rotate_left
                          · simp only [Act.put, List.setIfInBounds_toArray, List.set_cons_zero, List.set_cons_succ, i64_w, i32_w]
                            rfl
                          refine last_ (i := 15) (N := none) #[true, true, true, true, true, true, true, true, true, true, true, true, true, true, true, true] rfl rfl (one_of HT_.out (by kernel_rfl)) (by decide) (fun K hK => ?_)
                          refine skip_ (w1 := ?_) (by rfl) rfl ?_ ?_
                          rotate_left
                          · go_simp
                            rfl
                          refine hK.out _ _ ?_
                          clear hK K
                          refine done_ (done_of HT_.out (by kernel_rfl)) ?_
                          try go_wp2
                          go_roundg k1
                          case measure => have := HK1.out; omega
                          case rel => exact ⟨(y311), (wrap64 (x8_1 + 1)), (by first | rfl | (simp; done) | (simp [*]; done) | (simp <;> grind)), (by first | exact H' | (simp only [hji22, hji25, hji28]; exact H')), ⟨by have := HK1.out; omega⟩, ⟨by (with_reducible repeat (first | apply Kd.S_alloc | apply Kd.S_drewN | apply Kd.S_drew)); exact HQ40.out⟩, ⟨by repeat (first | (with_reducible first | exact HB.out | apply below_alloc | apply pw_below_drewN | apply below_drew1 | refine below_set ?_ GB38.out) | exact HB.out)⟩⟩
                        · rw [if_neg c32] at H
                          exact absurd H (by simp)
                      · rw [if_neg c31] at H
                        exact absurd H (by simp)
                    · rw [if_neg c30] at H
                      exact absurd H (by simp)
                  · rw [if_neg c29] at H
                    exact absurd H (by simp)
                · rw [if_neg c27] at H
                  exact absurd H (by simp)
              · rw [if_neg c26] at H
                have c26b0 : decide ((ji25) ≤ (((rd_T109 x7_1 (ji22)).f1).length : Int)) = false := decide_eq_false c26
                clear c26
                by_cases c43 : 0 ≤ x8_1
                · rw [if_pos c43] at H
                  have c43b0 : decide (0 ≤ x8_1) = true := decide_eq_true c43
                  clear c43
                  by_cases c44 : ((rd_T109 x7_1 (ji22)).f1).length < 8796093022208
                  · rw [if_pos c44] at H
                    have LMc44 := Aside0.mk c44
                    clear c44
                    obtain ⟨y314, hy314⟩ : ∃ y_ : List (S52), y_ = (((rd_T109 x7_1 (ji22)).f1) ++ [(⟨(rd_T52 l1 x8_1).f0, (rd_T52 l1 x8_1).f1⟩ : S52)]) := ⟨_, rfl⟩
                    replace H : (marigraphref09_Cut.l0 k1 a0 l1 a2 (x7_1.set ((ji22) : Int).toNat (⟨(rd_T109 x7_1 (ji22)).f0, y314⟩ : S109)) (wrap64 (x8_1 + 1))) = some r := by first | (rw [hy314]; with_reducible exact H) | (have H2_ := (Option.bind_some _ _).symm.trans H; rw [hy314]; with_reducible exact H2_) | (have H2_ := (Option.bind_some _ _).symm.trans H; with_reducible exact H2_) | with_reducible exact H | (rw [hy314]; exact H) | exact H
                    have Ny314 := Aside0.mk hy314
                    clear hy314
                    obtain ⟨y317, hy317⟩ : ∃ y_ : List (S109), y_ = (x7_1.set ((ji22) : Int).toNat (⟨(rd_T109 x7_1 (ji22)).f0, y314⟩ : S109)) := ⟨_, rfl⟩
                    replace H : (marigraphref09_Cut.l0 k1 a0 l1 a2 y317 (wrap64 (x8_1 + 1))) = some r := by first | (rw [hy317]; with_reducible exact H) | (have H2_ := (Option.bind_some _ _).symm.trans H; rw [hy317]; with_reducible exact H2_) | (have H2_ := (Option.bind_some _ _).symm.trans H; with_reducible exact H2_) | with_reducible exact H | (rw [hy317]; exact H) | exact H
                    have Ny317 := Aside0.mk hy317
                    clear hy317
                    have H' := Aside0.mk H
                    clear H
                    obtain ⟨Ao46, co46, eo46⟩ := Kd.S_slice HO_7.out
                    subst eo46
                    have p302 : 0 ≤ ((ji22) : Int) := of_decide_eq_true (by first | (with_reducible assumption) | assumption)
                    have q302 : (ji22) < (x7_1.length : Int) := of_decide_eq_true (by first | (with_reducible assumption) | assumption)
                    obtain ⟨ad302, A302_1, c302_1, e302, hx302_0, hx302_1, hl302_1, hi302_1⟩ := at_T109 (Kd.S_reads' HO_7.out).2.2 (ji22) p302 q302
                    cases e302
                    obtain ⟨ce302, hce302, hMe302, hcc302⟩ := Kd.S_get HO_7.out z109 (ji22) p302 (by first | exact q302 | exact of_decide_eq_true (by first | (with_reducible assumption) | assumption) | (have e_ := (Kd.S_reads' HO_7.out).1; omega))
                    obtain ⟨ve302_1, rfl, ge302_1⟩ := k109_openM hMe302
                    have hv302_1 := hcc302 1 _ rfl
                    rw [add_field _ _ 1 (by omega)] at hv302_1
                    replace hv302_1 := Option.some.inj (hv302_1.symm.trans hx302_1)
                    rw [hv302_1] at ge302_1
                    have HL302_1 := Aside0.mk (show Kd.R k52 52 _ _ _ _ ((rd_T109 x7_1 (ji22)).f1) from ge302_1)
                    clear hv302_1 ge302_1
                    have HX302_1 := Aside0.mk hx302_1
                    clear hcc302 hce302
                    have HR302_1 := Aside0.mk hi302_1
                    have HC302_1 := Aside0.mk hl302_1
                    clear hi302_1 hl302_1
                    replace p302 := eq_true p302
                    replace q302 := eq_true q302
                    try go_wp2
                    have n0_ := Aside0.mk (Kd.S_drew HO_7.out)
                    have n1_ := Aside0.mk (Kd.R_drew HL302_1.out)
                    have n2_ := Aside0.mk (Kd.C_drew HR302_1.out)
                    have n3_ := Aside0.mk (below_drew1 HB.out)
                    clear HO_7
                    clear HL302_1
                    clear HR302_1
                    clear HB
                    have HO_7 := n0_
                    have HL302_1 := n1_
                    have HR302_1 := n2_
                    have HB := n3_
                    clear n0_ n1_ n2_ n3_
                    have p312 : 0 ≤ ((ji22) : Int) := of_decide_eq_true (by first | (with_reducible assumption) | assumption)
                    have q312 : (ji22) < (x7_1.length : Int) := of_decide_eq_true (by first | (with_reducible assumption) | assumption)
                    obtain ⟨ad312, A312_1, c312_1, e312, hx312_0, hx312_1, hl312_1, hi312_1⟩ := at_T109 (Kd.S_reads' HO_7.out).2.2 (ji22) p312 q312
                    obtain rfl : ad302 = ad312 := (by injection e312)
                    obtain ⟨ce312, hce312, hMe312, hcc312⟩ := Kd.S_get HO_7.out z109 (ji22) p312 (by first | exact q312 | exact of_decide_eq_true (by first | (with_reducible assumption) | assumption) | (have e_ := (Kd.S_reads' HO_7.out).1; omega))
                    obtain ⟨ve312_1, rfl, ge312_1⟩ := k109_openM hMe312
                    have hv312_1 := hcc312 1 _ rfl
                    rw [add_field _ _ 1 (by omega)] at hv312_1
                    replace hv312_1 := Option.some.inj (hv312_1.symm.trans hx312_1)
                    rw [hv312_1] at ge312_1
                    have HL312_1 := Aside0.mk (show Kd.R k52 52 _ _ _ _ ((rd_T109 x7_1 (ji22)).f1) from ge312_1)
                    clear hv312_1 ge312_1
                    have HX312_1 := Aside0.mk hx312_1
                    clear hcc312 hce312
                    have HR312_1 := Aside0.mk hi312_1
                    have HC312_1 := Aside0.mk hl312_1
                    clear hi312_1 hl312_1
                    replace p312 := eq_true p312
                    replace q312 := eq_true q312
                    have p313 : 0 ≤ (x8_1 : Int) := of_decide_eq_true (by first | (with_reducible assumption) | assumption)
                    have q313 : x8_1 < (l1.length : Int) := of_decide_eq_true (by first | (with_reducible assumption) | assumption)
                    obtain ⟨ad313, e313, hx313_0, hx313_1⟩ := at_T52 HR1.out x8_1 p313 q313
                    have hw313_1 := hx313_1
                    have hw313_0 := hx313_0
                    cases e313
                    replace hx313_0 := (HB.out.cell (World.block_lt_of_cell? w _ hx313_0)).trans hx313_0
                    replace hx313_1 := (HB.out.cell (World.block_lt_of_cell? w _ hx313_1)).trans hx313_1
                    replace p313 := eq_true p313
                    replace q313 := eq_true q313
                    obtain ⟨go48, co48, eo48, gb48, gl48, cl48, HG48⟩ := Kd.S_form HO_7.out (by have h_ : ((ji22) : Int) < ((x7_1.length : Int) : Int) := of_decide_eq_true (by first | (with_reducible assumption) | assumption); have h2_ : 0 ≤ ((ji22) : Int) := (of_decide_eq_true (by first | (with_reducible assumption) | assumption)); omega)
                    (first | cases eo48 | (injection eo48 with ea_ en_ ec_; (first | subst ea_ | (injection ea_ with ea_; subst ea_)); subst ec_; clear en_))
                    have GB48 := Aside0.mk gb48
                    have GG48 := Aside0.mk HG48
                    clear gb48 gl48 HG48
                    (first | simp only [add_plain] at hx302_0 | skip)
                    (first | simp only [add_plain] at hx302_1 | skip)
                    (first | simp only [add_plain] at hx312_0 | skip)
                    (first | simp only [add_plain] at hx312_1 | skip)
                    obtain ⟨oki48, ce48, hcl48, hM48, hcc48, _, _, hH48⟩ := Kd.S_elem HO_7.out z109 ((ji22) : Int) (of_decide_eq_true (by first | (with_reducible assumption) | assumption)) (by have h_ : ((ji22) : Int) < ((x7_1.length : Int) : Int) := of_decide_eq_true (by first | (with_reducible assumption) | assumption); first | exact h_ | (have e_ := (Kd.S_reads' HO_7.out).1; omega) | simpa using h_)
                    obtain ⟨ve48_1, rfl, ge48_1⟩ := k109_openM hM48
                    have hv48 := hcc48 1 _ rfl
                    have hX48 := HX312_1.out
                    (try simp only [add_plain] at hX48)
                    (try simp only [Nat.add_zero] at hv48)
                    replace hv48 := Option.some.inj (hv48.symm.trans hX48)
                    subst hv48
                    clear hX48 hcc48 hcl48
                    have UU48 := Aside0.mk (show Kd.R k52 52 _ w.heap.size oki48 (.slice A312_1 ((rd_T109 x7_1 (ji22)).f1).length c312_1) ((rd_T109 x7_1 (ji22)).f1) from ge48_1)
                    have HH48 := Aside0.mk hH48
                    have HN48 := Aside0.mk (Kd.S_reads' HO_7.out).1
                    clear hH48 ge48_1
                    refine start_ (n := 16) (S := fun w' => w'.cell? ⟨go48, ((ji22)).toNat * 2, none⟩ = some (.int .i64 ((rd_T109 x7_1 (ji22)).f0)) ∧ w'.cell? ⟨go48, ((ji22)).toNat * 2 + 1, none⟩ = some (.slice A312_1 ((rd_T109 x7_1 (ji22)).f1).length c312_1) ∧ w'.cell? (ad313.add ((x8_1).toNat * 2)) = some (.int .i64 ((rd_T52 l1 x8_1).f0)) ∧ w'.cell? ⟨(ad313.add ((x8_1).toNat * 2)).block, (ad313.add ((x8_1).toNat * 2)).off + 1, none⟩ = some (.int .i64 ((rd_T52 l1 x8_1).f1))) (ds := [15]) #[false, false, false, false, false, false, false, false, false, false, false, false, false, false, false, false] (by kernel_rfl) rfl rfl ⟨hx312_0, hx312_1, ((HB.out.cell (World.block_lt_of_cell? w _ hw313_0)).trans hw313_0), ((HB.out.cell (World.block_lt_of_cell? w _ hw313_1)).trans hw313_1)⟩ (fun hHeld => ?_); refine with_tabW marigraphref09_Cut.tab9 marigraphref09_Cut.bits9 (fun HT_ HW_ => ?_)
                    generalize wr.drew = w47 at HO_7 HL302_1 HR302_1 HB GG48 HH48 HL312_1 HR312_1 HX312_1 UU48 hx302_0 hx302_1 hx312_0 hx312_1 hx313_0 hx313_1 hHeld ⊢
                    refine pure_ (i := 0) (N := some 39) (v := ?_) (a' := ?_) #[true, false, false, false, false, false, false, false, false, false, false, false, false, false, false, false] rfl rfl (any_of HT_.out (by kernel_rfl)) (fun _ _ _ h => h) (Or.inl ⟨by rfl, ?_⟩) ?_ ?_
                    rotate_left
                    · intro w'
                      go_simp
                      with_reducible rfl
                    rotate_left
                    · simp only [Act.put, List.setIfInBounds_toArray, List.set_cons_zero, List.set_cons_succ, i64_w, i32_w]
                      rfl
                    refine pure_ (i := 1) (N := some 40) (v := ?_) (a' := ?_) #[true, true, false, false, false, false, false, false, false, false, false, false, false, false, false, false] rfl rfl (any_of HT_.out (by kernel_rfl)) (fun _ _ _ h => h) (Or.inl ⟨by rfl, ?_⟩) ?_ ?_
                    rotate_left
                    · intro w'
                      go_simp
                      with_reducible rfl
                    rotate_left
                    · simp only [Act.put, List.setIfInBounds_toArray, List.set_cons_zero, List.set_cons_succ, i64_w, i32_w]
                      rfl
                    refine pure_ (i := 2) (N := some 41) (v := ?_) (a' := ?_) #[true, true, true, false, false, false, false, false, false, false, false, false, false, false, false, false] rfl rfl (any_of HT_.out (by kernel_rfl)) (fun _ _ _ h => h) (Or.inl ⟨by rfl, ?_⟩) ?_ ?_
                    rotate_left
                    · intro w'
                      go_simp
                      with_reducible rfl
                    rotate_left
                    · simp only [Act.put, List.setIfInBounds_toArray, List.set_cons_zero, List.set_cons_succ, i64_w, i32_w]
                      rfl
                    refine pure_ (i := 3) (N := some 42) (v := ?_) (a' := ?_) #[true, true, true, true, false, false, false, false, false, false, false, false, false, false, false, false] rfl rfl (any_of HT_.out (by kernel_rfl)) (fun _ _ _ h => h) (Or.inl ⟨by rfl, ?_⟩) ?_ ?_
                    rotate_left
                    · intro w'
                      go_simp
                      with_reducible rfl
                    rotate_left
                    · simp only [Act.put, List.setIfInBounds_toArray, List.set_cons_zero, List.set_cons_succ, i64_w, i32_w]
                      rfl
                    refine pure_ (i := 4) (N := some 43) (v := ?_) (a' := ?_) #[true, true, true, true, true, false, false, false, false, false, false, false, false, false, false, false] rfl rfl (any_of HT_.out (by kernel_rfl)) (fun _ _ _ h => h) (Or.inl ⟨by rfl, ?_⟩) ?_ ?_
                    rotate_left
                    · intro w'
                      go_simp
                      with_reducible rfl
                    rotate_left
                    · simp only [Act.put, List.setIfInBounds_toArray, List.set_cons_zero, List.set_cons_succ, i64_w, i32_w]
                      rfl
                    refine pure_ (i := 5) (N := some 44) (v := ?_) (a' := ?_) #[true, true, true, true, true, true, false, false, false, false, false, false, false, false, false, false] rfl rfl (any_of HT_.out (by kernel_rfl)) (fun _ _ _ h => h) (Or.inl ⟨by rfl, ?_⟩) ?_ ?_
                    rotate_left
                    · intro w'
                      go_simp
                      with_reducible rfl
                    rotate_left
                    · simp only [Act.put, List.setIfInBounds_toArray, List.set_cons_zero, List.set_cons_succ, i64_w, i32_w]
                      rfl
                    refine pure_ (i := 7) (N := some 46) (v := ?_) (a' := ?_) #[true, true, true, true, true, true, false, true, false, false, false, false, false, false, false, false] rfl rfl (any_of HT_.out (by kernel_rfl)) (fun _ _ _ h => h) (Or.inl ⟨by rfl, ?_⟩) ?_ ?_
                    rotate_left
                    · intro w'
                      go_simp
                      with_reducible rfl
                    rotate_left
                    · simp only [Act.put, List.setIfInBounds_toArray, List.set_cons_zero, List.set_cons_succ, i64_w, i32_w]
                      rfl
                    refine pure_ (i := 8) (N := some 47) (v := ?_) (a' := ?_) #[true, true, true, true, true, true, false, true, true, false, false, false, false, false, false, false] rfl rfl (any_of HT_.out (by kernel_rfl)) (fun _ _ _ h => h) (Or.inl ⟨by rfl, ?_⟩) ?_ ?_
                    rotate_left
                    · intro w'
                      go_simp
                      with_reducible rfl
                    rotate_left
                    · simp only [Act.put, List.setIfInBounds_toArray, List.set_cons_zero, List.set_cons_succ, i64_w, i32_w]
                      rfl
                    refine pure_ (i := 9) (N := some 48) (v := ?_) (a' := ?_) #[true, true, true, true, true, true, false, true, true, true, false, false, false, false, false, false] rfl rfl (any_of HT_.out (by kernel_rfl)) (fun _ _ _ h => h) (Or.inl ⟨by rfl, ?_⟩) ?_ ?_
                    rotate_left
                    · intro w'
                      go_simp
                      with_reducible rfl
                    rotate_left
                    · simp only [Act.put, List.setIfInBounds_toArray, List.set_cons_zero, List.set_cons_succ, i64_w, i32_w]
                      rfl
                    refine take_ (i := 6) (N := some 45) (v := ?_) (a' := ?_) #[true, true, true, true, true, true, true, true, true, true, false, false, false, false, false, false] rfl rfl (take_ofW HT_.out HW_.out (by kernel_rfl)) (fun _ _ _ h => h) (Or.inl ⟨by rfl, ?_⟩) hHeld ?_ ?_
                    rotate_left
                    · rintro w' ⟨s0, s1, s2, s3⟩
                      go_simp
                      with_reducible rfl
                    rotate_left
                    · simp only [Act.put, List.setIfInBounds_toArray, List.set_cons_zero, List.set_cons_succ, i64_w, i32_w]
                      rfl
                    refine take_ (i := 10) (N := some 49) (v := ?_) (a' := ?_) #[true, true, true, true, true, true, true, true, true, true, true, false, false, false, false, false] rfl rfl (take_ofW HT_.out HW_.out (by kernel_rfl)) (fun _ _ _ h => h) (Or.inl ⟨by rfl, ?_⟩) hHeld ?_ ?_
                    rotate_left
                    · rintro w' ⟨s0, s1, s2, s3⟩
                      go_simp
                      with_reducible rfl
                    rotate_left
                    · simp only [Act.put, List.setIfInBounds_toArray, List.set_cons_zero, List.set_cons_succ, i64_w, i32_w]
                      rfl
                    refine one_ (i := 11) (N := some 50) #[true, true, true, true, true, true, true, true, true, true, true, true, false, false, false, false] rfl rfl (one_of HT_.out (by kernel_rfl)) (by decide) (fun K hK => ?_)
                    refine value_ (w1 := ?_) (v := ?_) (by rfl) rfl ?_ ?_
                    rotate_left 2
                    · go_simp
                      constructor
                      · rfl
                      · rfl
                    refine hK.out _ _ ⟨(World.cell?_alloc_lt _ _ _ (World.block_lt_of_cell? _ _ (hHeld.1))).trans (hHeld.1), (World.cell?_alloc_lt _ _ _ (World.block_lt_of_cell? _ _ (hHeld.2.1))).trans (hHeld.2.1), (World.cell?_alloc_lt _ _ _ (World.block_lt_of_cell? _ _ (((HB.out.cell (World.block_lt_of_cell? w _ hw313_0)).trans hw313_0)))).trans (((HB.out.cell (World.block_lt_of_cell? w _ hw313_0)).trans hw313_0)), (World.cell?_alloc_lt _ _ _ (World.block_lt_of_cell? _ _ (((HB.out.cell (World.block_lt_of_cell? w _ hw313_1)).trans hw313_1)))).trans (((HB.out.cell (World.block_lt_of_cell? w _ hw313_1)).trans hw313_1))⟩ (fun hHeld => ?_)
                    clear hK K
                    refine norm_ (a' := ?_) ?_ ?_
                    rotate_left
                    · show Act.put _ (some 50) _ = _
                      simp only [Act.put, List.setIfInBounds_toArray, List.set_cons_zero, List.set_cons_succ, i64_w, i32_w]
                      rfl
                    refine one_ (i := 12) (N := some 51) #[true, true, true, true, true, true, true, true, true, true, true, true, true, false, false, false] rfl rfl (one_of HT_.out (by kernel_rfl)) (by decide) (fun K hK => ?_)
                    refine Kd.R_append_step k52 (w0 := w) w.heap.size (by rfl) (.tmp 45) (.tmp 50) 44 52 (.agg #[(.int .i64 0), (.int .i64 0)]) 16 rfl Try.underlying44 info52 rfl (by decide) (by omega) (.slice A312_1 ((rd_T109 x7_1 (ji22)).f1).length c312_1) ((rd_T109 x7_1 (ji22)).f1) (⟨(rd_T52 l1 x8_1).f0, (rd_T52 l1 x8_1).f1⟩ : S52) [.int .i64 ((rd_T52 l1 x8_1).f0), .int .i64 ((rd_T52 l1 x8_1).f1)] (fun k_ => oki48 k_ ∨ ((fun _ => True)) k_ ∧ w47.heap.size ≤ k_) (fun _ => False) rfl rfl ?aP (fun _ hk => hk.elim) ?aF ?aO ?aB ?aS ?aL ?_
                    (case aP => exact k52_mkM _ _ _ (⟨(rd_T52 l1 x8_1).f0, (rd_T52 l1 x8_1).f1⟩ : S52))
                    (case aB => exact (by repeat (first | (with_reducible first | exact HB.out | apply below_alloc | apply pw_below_drewN | apply below_drew1) | exact HB.out)))
                    (case aF => exact (fun k_ hk => .inr ⟨trivial, hk⟩))
                    (case aO => exact (by (with_reducible repeat (first | apply Kd.R_alloc | apply Kd.R_drewN | apply Kd.R_drew)); exact Kd.R_mono UU48.out (fun _ hk => .inl hk)))
                    (case aS => exact (below_size (by repeat (first | (with_reducible first | exact HB.out | apply below_alloc | apply pw_below_drewN | apply below_drew1) | exact HB.out))))
                    (case aL => have := LMc44.out; omega)
                    intro v315 w49 ho hb hg hat
                    (first | have HS0_ := cell_grown hg (hHeld.1) (by first | (rw [add_block]; exact (fun e_ => ((HL312_1.out.1 _ e_.symm).2) rfl)) | (show some (Addr.add _ _).block ≠ _; rw [add_block]; exact (fun e_ => ((HL312_1.out.1 _ e_.symm).2) rfl)) | exact (fun e_ => ((HL312_1.out.1 _ e_.symm).2) rfl)) | have HS0_ := cell_grown hg (cell_unalloc (hHeld.1) (by first | (rw [add_block]; exact Kd.S_lt HO_7.out _ rfl) | (show (Addr.add _ _).block < _; rw [add_block]; exact Kd.S_lt HO_7.out _ rfl) | exact Kd.S_lt HO_7.out _ rfl)) (by first | (rw [add_block]; exact (fun e_ => ((HL312_1.out.1 _ e_.symm).2) rfl)) | (show some (Addr.add _ _).block ≠ _; rw [add_block]; exact (fun e_ => ((HL312_1.out.1 _ e_.symm).2) rfl)) | exact (fun e_ => ((HL312_1.out.1 _ e_.symm).2) rfl)))
                    (first | have HS1_ := cell_grown hg (hHeld.2.1) (by first | (rw [add_block]; exact (fun e_ => ((HL312_1.out.1 _ e_.symm).2) rfl)) | (show some (Addr.add _ _).block ≠ _; rw [add_block]; exact (fun e_ => ((HL312_1.out.1 _ e_.symm).2) rfl)) | exact (fun e_ => ((HL312_1.out.1 _ e_.symm).2) rfl)) | have HS1_ := cell_grown hg (cell_unalloc (hHeld.2.1) (by first | (rw [add_block]; exact Kd.S_lt HO_7.out _ rfl) | (show (Addr.add _ _).block < _; rw [add_block]; exact Kd.S_lt HO_7.out _ rfl) | exact Kd.S_lt HO_7.out _ rfl)) (by first | (rw [add_block]; exact (fun e_ => ((HL312_1.out.1 _ e_.symm).2) rfl)) | (show some (Addr.add _ _).block ≠ _; rw [add_block]; exact (fun e_ => ((HL312_1.out.1 _ e_.symm).2) rfl)) | exact (fun e_ => ((HL312_1.out.1 _ e_.symm).2) rfl)))
                    rw [← Ny314.out] at ho
                    have n0_ := Aside0.mk (hb)
                    have n1_ := Aside0.mk (Kd.H_grown (Kd.H_widen (by repeat (first | exact HH48.out | refine Kd.H_alloc ?_ _ | refine Kd.H_drewN ?_ _ | refine Kd.H_drew ?_))) hg (fun k_ e_ => .inl (UU48.out.1 k_ e_)))
                    have n2_ := Aside0.mk (ho)
                    clear HB
                    clear HH48
                    clear HO_7
                    clear UU48
                    clear HL302_1
                    clear HL312_1
                    have HB := n0_
                    have HH48 := n1_
                    have HO316 := n2_
                    clear n0_ n1_ n2_
                    clear ho hb hg hat
                    have p45 : 0 ≤ ((ji22) : Int) := of_decide_eq_true (by first | (with_reducible assumption) | assumption)
                    have q45 : ((ji22) : Int) < ((x7_1.length : Int) : Int) := of_decide_eq_true (by first | (with_reducible assumption) | assumption)
                    replace p45 := eq_true p45
                    replace q45 := eq_true q45
                    obtain ⟨Ao52, co52, eo52⟩ := Kd.R_slice HO316.out
                    (first | subst eo52 | (injection eo52 with f1_ f2_ f3_; have f4_ := f1_.symm; have f5_ := f3_.symm; clear f1_ f2_ f3_; subst f4_; subst f5_))
                    obtain ⟨_, _, hraw50, _, _, hcc50, _⟩ := Kd.H_raw HH48.out (of_decide_eq_true (by first | (with_reducible assumption) | assumption)) (by have h_ : ((ji22) : Int) < ((x7_1.length : Int) : Int) := of_decide_eq_true (by first | (with_reducible assumption) | assumption); first | exact h_ | (have e_ := (HN48.out); omega) | simpa using h_)
                    obtain ⟨_, hfr50⟩ := Kd.H_at HH48.out (of_decide_eq_true (by first | (with_reducible assumption) | assumption)) (by have h_ : ((ji22) : Int) < ((x7_1.length : Int) : Int) := of_decide_eq_true (by first | (with_reducible assumption) | assumption); first | exact h_ | (have e_ := (HN48.out); omega) | simpa using h_)
                    have hx50_0 := hcc50 1 _ rfl
                    have hf50_0 := hfr50 1
                    (try rw [show (k109).sz = 2 from rfl] at hx50_0)
                    (try rw [show (k109).sz = 2 from rfl] at hf50_0)
                    have HP50 := Kd.S_seg0 HH48.out (of_decide_eq_true (by first | (with_reducible assumption) | assumption)) (by have h_ : ((ji22) : Int) < ((x7_1.length : Int) : Int) := of_decide_eq_true (by first | (with_reducible assumption) | assumption); first | exact h_ | (have e_ := (HN48.out); omega) | simpa using h_) (seg := [.slice Ao52 y314.length co52]) (j := 1) (show 2 ≤ 2 from by decide) (x' := (⟨(rd_T109 x7_1 (ji22)).f0, y314⟩ : S109)) (k109_mkM _ _ _ (⟨(rd_T109 x7_1 (ji22)).f0, y314⟩ : S109) HO316.out) (fun _ hk => hk)
                    clear hcc50 hfr50
                    have HS50 := HP50.1
                    rw [← Ny317.out] at HS50
                    have HQ50 := Aside0.mk HS50
                    obtain ⟨_, hgg50⟩ := Kd.R_typed hraw50 go48 rfl
                    have GG50_ := Aside0.mk hgg50
                    clear HP50 HS50 hgg50
                    refine hK.out _ _ ⟨HS0_, HS1_, ((HB.out.cell (World.block_lt_of_cell? w _ hw313_0)).trans hw313_0), ((HB.out.cell (World.block_lt_of_cell? w _ hw313_1)).trans hw313_1)⟩ (fun hHeld => ?_)
                    clear hK K
                    refine norm_ (a' := ?_) ?_ ?_
                    rotate_left
                    · show Act.put _ (some 51) _ = _
                      simp only [Act.put, List.setIfInBounds_toArray, List.set_cons_zero, List.set_cons_succ, i64_w, i32_w]
                      rfl
                    refine pure_ (i := 13) (N := some 52) (v := ?_) (a' := ?_) #[true, true, true, true, true, true, true, true, true, true, true, true, true, true, false, false] rfl rfl (any_of HT_.out (by kernel_rfl)) (fun _ _ _ h => h) (Or.inl ⟨by rfl, ?_⟩) ?_ ?_
                    rotate_left
                    · intro w'
                      go_simp
                      with_reducible rfl
                    rotate_left
                    · simp only [Act.put, List.setIfInBounds_toArray, List.set_cons_zero, List.set_cons_succ, i64_w, i32_w]
                      rfl
                    refine pure_ (i := 14) (N := some 53) (v := ?_) (a' := ?_) #[true, true, true, true, true, true, true, true, true, true, true, true, true, true, true, false] rfl rfl (any_of HT_.out (by kernel_rfl)) (fun _ _ _ h => h) (Or.inl ⟨by rfl, ?_⟩) ?_ ?_
                    rotate_left
                    · intro w'
                      go_simp
                      with_reducible rfl
                    rotate_left
                    · simp only [Act.put, List.setIfInBounds_toArray, List.set_cons_zero, List.set_cons_succ, i64_w, i32_w]
                      rfl
                    refine last_ (i := 15) (N := none) #[true, true, true, true, true, true, true, true, true, true, true, true, true, true, true, true] rfl rfl (one_of HT_.out (by kernel_rfl)) (by decide) (fun K hK => ?_)
                    refine skip_ (w1 := ?_) (by rfl) rfl ?_ ?_
                    rotate_left
                    · go_simp
                      rfl
                    refine hK.out _ _ ?_
                    clear hK K
                    refine done_ (done_of HT_.out (by kernel_rfl)) ?_
                    try go_wp2
                    go_roundg k1
                    case measure => have := HK1.out; omega
                    case rel => exact ⟨(y317), (wrap64 (x8_1 + 1)), (by first | rfl | (simp; done) | (simp [*]; done) | (simp <;> grind)), (by first | exact H' | (simp only [hji22, hji25]; exact H')), ⟨by have := HK1.out; omega⟩, ⟨by (with_reducible repeat (first | apply Kd.S_alloc | apply Kd.S_drewN | apply Kd.S_drew)); exact HQ50.out⟩, ⟨by repeat (first | (with_reducible first | exact HB.out | apply below_alloc | apply pw_below_drewN | apply below_drew1 | refine below_set ?_ GB48.out) | exact HB.out)⟩⟩
                  · rw [if_neg c44] at H
                    exact absurd H (by simp)
                · rw [if_neg c43] at H
                  exact absurd H (by simp)
            · rw [if_neg c24] at H
              exact absurd H (by simp)
          · rw [if_neg c23] at H
            exact absurd H (by simp)
      · rw [if_neg c4] at H
        have c4b0 : decide (x8_1 < (l1.length : Int)) = false := decide_eq_false c4
        clear c4
        obtain rfl := Option.some.inj H
        go_wp2
        go_ret
        exact ⟨_, by first | rfl | (simp [errW_none, errW_some] <;> rfl) | (simp [*, errW_none, errW_some] <;> rfl), by (with_reducible repeat (first | apply Kd.S_alloc | apply Kd.S_drewN | apply Kd.S_drew)); exact HO_7.out, by repeat (first | (with_reducible first | exact HB.out | apply below_alloc | apply pw_below_drewN | apply below_drew1) | exact HB.out)⟩

end Go.Proofs.Ythkpnnbjcendcaa.X

