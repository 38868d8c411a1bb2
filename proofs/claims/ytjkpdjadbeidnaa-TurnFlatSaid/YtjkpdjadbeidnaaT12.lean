-- By xprint.py, out of the translation's own print. Lean checks it.
import Derived.Test.YtjkpdjadbeidnaaT0
import Derived.Test.YtjkpdjadbeidnaaT5
import Derived.Test.YtjkpdjadbeidnaaT6
namespace Go.Proofs.Ytjkpdjadbeidnaa.T
open Go.RowKit Go.Proofs.YtjkpdjadbeidnaaW.PrintWords Go.Proofs.YtjkpdjadbeidnaaW.PrintLast Go.Proofs.YtjkpdjadbeidnaaW.PrintMore Go.Proofs.Ytjkpdjadbeidnaa.Flo
attribute [local go_sem high] x_neg x_cneg x_add x_cadd x_eq x_ne x_ge x_le x_ceq x_cne x_ofi x_toi
attribute [local go_sem] max2_int min2_int max_two min_two max_three min_three max_four min_four   -- for this text's walks alone
set_option linter.unusedVariables false
set_option linter.unusedSimpArgs false

/-! ### marigraphlaw13_TurnFlat: function 7 -/
def marigraphlaw13_TurnFlat.l0 : Nat → Bool → Int → Int → Int → List (S33) → Int → Option (Bool)
  | 0, _, _, _, _, _, _ => none
  | k + 1, x7, x8, x9, x10, x11, x27 => if x27 < 4 then (if x11.length < 8796093022208 then (marigraphlaw13_TurnFlat.l0 k x7 x8 x9 x10 (x11 ++ [(⟨wrap64 (x10 + (wrap64 (x27 * (wrap64 (Int.tdiv x8 4))))), x9⟩ : S33)]) (wrap64 (x27 + 1))) else (none)) else ((turn_Of.f k x11 x8).bind fun bt198 => (if 0 < (x11.length : Int) then (if 2 < (x11.length : Int) then ((turn_Of.f k (([(⟨(rd_T33 x11 0).f0, (rd_T33 x11 0).f1⟩ : S33), (⟨(rd_T33 x11 2).f0, (rd_T33 x11 2).f1⟩ : S33)] : List (S33))) x8).bind fun bt205 => (if x7 = true then (if bt198.2 = 0 then (if bt205.2 = 0 then (if (ceq bt198.1.re bt198.1.im 0 0) = true then (some (ceq bt205.1.re bt205.1.im 0 0)) else (some false)) else (some false)) else (some false)) else (some false))) else (none)) else (none)))
def marigraphlaw13_TurnFlat.f (k : Nat) (a0 : Int) (a1 : Int) (a2 : Int) : Option (Bool) := (marigraphlaw13_shown.f k).bind fun t194 => (marigraphlaw13_TurnFlat.l0 k t194 (wrap64 ((wrap64 ((wrap64 (Int.tmod a1 262144)) + 1)) * 4)) (Int.tmod a0 1099511627776) (Int.tmod a2 1125899906842624) ([] : List (S33)) 0)
theorem marigraphlaw13_TurnFlat.mono_l : ∀ k, (∀ y0 y1 y2 y3 y4 y5, LeO (marigraphlaw13_TurnFlat.l0 k y0 y1 y2 y3 y4 y5) (marigraphlaw13_TurnFlat.l0 (k + 1) y0 y1 y2 y3 y4 y5))
  | 0 => fun _ _ _ _ _ _ r h => by simp [marigraphlaw13_TurnFlat.l0] at h
  | k + 1 => by
    have ih0 := marigraphlaw13_TurnFlat.mono_l k
    · intro y0 y1 y2 y3 y4 y5
      unfold marigraphlaw13_TurnFlat.l0
      repeat' first
      | (with_reducible exact ih0 _ _ _ _ _ _)
      | (with_reducible exact marigraphlaw13_shown.mono _)
      | (with_reducible exact turn_Of.mono _ _ _)
      | (with_reducible exact LeO.refl _)
      | (with_reducible exact LeO.none _)
      | (with_reducible refine LeO.ite ?_ ?_)
      | (with_reducible refine LeO.bind ?_ (fun _ => ?_))
      | exact ih0 _ _ _ _ _ _
      | exact marigraphlaw13_shown.mono _
      | exact turn_Of.mono _ _ _
      | exact LeO.none _
      | refine LeO.ite ?_ ?_
      | refine LeO.bind ?_ (fun _ => ?_)
theorem marigraphlaw13_TurnFlat.mono : ∀ a0 a1 a2 k, LeO (marigraphlaw13_TurnFlat.f k a0 a1 a2) (marigraphlaw13_TurnFlat.f (k + 1) a0 a1 a2) := by
  intro a0 a1 a2 k
  have ih0 := marigraphlaw13_TurnFlat.mono_l k
  unfold marigraphlaw13_TurnFlat.f
  repeat' first
      | (with_reducible exact ih0 _ _ _ _ _ _)
      | (with_reducible exact marigraphlaw13_shown.mono _)
      | (with_reducible exact turn_Of.mono _ _ _)
      | (with_reducible exact LeO.refl _)
      | (with_reducible exact LeO.none _)
      | (with_reducible refine LeO.ite ?_ ?_)
      | (with_reducible refine LeO.bind ?_ (fun _ => ?_))
      | exact ih0 _ _ _ _ _ _
      | exact marigraphlaw13_shown.mono _
      | exact turn_Of.mono _ _ _
      | exact LeO.none _
      | refine LeO.ite ?_ ?_
      | refine LeO.bind ?_ (fun _ => ?_)
def marigraphlaw13_TurnFlat.T10 : Bool × List (List Nat × List Nat) := (true, [([], []), ([0], [0]), ([1], [1]), ([], []), ([3], [3]), ([4], [4]), ([2, 5], [2, 5]), ([], []), ([6, 7], [6, 7]), ([8], [8]), ([9], [9]), ([9], [9]), ([10, 8, 0, 1, 2, 3, 4, 5, 6, 7, 8, 9, 10], [10]), ([11, 12, 0, 1, 2, 3, 4, 5, 6, 7, 8, 9, 10, 11, 12], [11])])
def marigraphlaw13_TurnFlat.B10 : List Nat := [0, 1, 3, 0, 8, 24, 63, 0, 255, 511, 1023, 1023, 2047, 8191]
theorem marigraphlaw13_TurnFlat.tab10 : rtab .any (opsOf Try.f7 10) = marigraphlaw13_TurnFlat.T10 := by kernel_rfl
theorem marigraphlaw13_TurnFlat.bits10 : waitsOk marigraphlaw13_TurnFlat.T10.2 marigraphlaw13_TurnFlat.B10 = true := by kernel_rfl
set_option maxHeartbeats 8000000 in
set_option maxRecDepth 100000 in
theorem marigraphlaw13_TurnFlat.calls (k : Nat) (a0 : Int) (a1 : Int) (a2 : Int) (r : Bool) (w : World) (h : marigraphlaw13_TurnFlat.f k a0 a1 a2 = some r) :
    Calls Try.prog 7 #[.int .i64 a0, .int .u32 a1, .int .i64 a2] w fun e w' => e = .returned (.bool r) ∧ Below w.heap.size w w' := by
  have hu33 := Try.underlying33
  have HB := Aside0.mk (Below.refl w.heap.size w)
  have H : ((marigraphlaw13_shown.f k).bind fun t194 => (marigraphlaw13_TurnFlat.l0 k t194 (wrap64 ((wrap64 ((wrap64 (Int.tmod a1 262144)) + 1)) * 4)) (Int.tmod a0 1099511627776) (Int.tmod a2 1125899906842624) ([] : List (S33)) 0)) = some r := h
  clear h
  replace H := Option.bind_eq_some_iff.mp H
  obtain ⟨t194, A40, H⟩ := H
  replace H : (marigraphlaw13_TurnFlat.l0 k t194 (wrap64 ((wrap64 ((wrap64 (Int.tmod a1 262144)) + 1)) * 4)) (Int.tmod a0 1099511627776) (Int.tmod a2 1125899906842624) ([] : List (S33)) 0) = some r := H
  have A4 := Aside0.mk A40
  clear A40
  have H' := Aside0.mk H
  clear H
  go_enter Try.func7, Try.ntmps7
  go_wp2_with (first | ((with_reducible refine gate_callee (f := 20) rfl ?_); refine goesL_ (some 17) rfl rfl Try.func20 (by kernel_rfl) rfl #[] rfl (by (try simp only [List.map_toArray, List.map_cons, List.map_nil]); first | done | rfl | (simp only [List.length_drop, List.length_take]; rfl)) ?_; (with_reducible refine (marigraphlaw13_shown.calls k  t194 _ A4.out).mono ?_); rintro e w5 ⟨rfl, hb⟩; refine ⟨_, rfl, ?_⟩; have n0_ := Aside0.mk (below_step (by repeat (first | (with_reducible first | exact HB.out | apply below_alloc | apply pw_below_drewN | apply below_drew1) | exact HB.out)) hb); clear HB; have HB := n0_; clear n0_; (try clear hb); (try clear hb2); (try clear hk); (try clear hi)))
  go_loopg [11, 27] k (fun kq v11 v27 w' => ∃ (x11_1 : List (S33)) (x27_1 : Int), v27 = .int .i64 x27_1 ∧ Aside0 (marigraphlaw13_TurnFlat.l0 kq t194 (wrap64 ((wrap64 ((wrap64 (Int.tmod a1 262144)) + 1)) * 4)) (Int.tmod a0 1099511627776) (Int.tmod a2 1125899906842624) x11_1 x27_1 = some r) ∧ Aside0 (kq ≤ k) ∧ Aside0 (Kd.R k33 33 w' w.heap.size (fun _ => True) v11 x11_1) ∧ Aside0 (Below w.heap.size w w'))
  case atStart => exact ⟨(([] : List (S33))), (0), (by first | rfl | (simp; done) | (simp [*]; done) | (simp <;> grind)), H', ⟨Nat.le_refl _⟩, ⟨by first | exact Kd.R_nil _ _ _ _ _ | exact Kd.N_nil _ _ _ _ _ | exact Kd.V_nil _ _ _ _ _ | exact Kd.Q_nil _ _ _ _ _ | exact Kd.S_nil _ _ _ _ _⟩, ⟨by repeat (first | (with_reducible first | exact HB.out | apply below_alloc | apply pw_below_drewN | apply below_drew1) | exact HB.out)⟩⟩
  case round =>
    clear H'
    try clear c2
    try clear p2
    obtain ⟨x11_1, x27_1, rfl, HA, HK1, HO_11, HB⟩ := hrel
    cases gk with
    | zero => exact absurd HA.out (by simp [marigraphlaw13_TurnFlat.l0])
    | succ k1 =>
      have H := HA.out
      clear HA
      simp only [marigraphlaw13_TurnFlat.l0] at H
      by_cases c6 : x27_1 < 4
      · rw [if_pos c6] at H
        have c6b0 : decide (x27_1 < 4) = true := decide_eq_true c6
        clear c6
        by_cases c7 : x11_1.length < 8796093022208
        · rw [if_pos c7] at H
          have LMc7 := Aside0.mk c7
          clear c7
          obtain ⟨y195, hy195⟩ : ∃ y_ : List (S33), y_ = (x11_1 ++ [(⟨wrap64 ((Int.tmod a2 1125899906842624) + (wrap64 (x27_1 * (wrap64 (Int.tdiv (wrap64 ((wrap64 ((wrap64 (Int.tmod a1 262144)) + 1)) * 4)) 4))))), (Int.tmod a0 1099511627776)⟩ : S33)]) := ⟨_, rfl⟩
          replace H : (marigraphlaw13_TurnFlat.l0 k1 t194 (wrap64 ((wrap64 ((wrap64 (Int.tmod a1 262144)) + 1)) * 4)) (Int.tmod a0 1099511627776) (Int.tmod a2 1125899906842624) y195 (wrap64 (x27_1 + 1))) = some r := by first | (rw [hy195]; with_reducible exact H) | (have H2_ := (Option.bind_some _ _).symm.trans H; rw [hy195]; with_reducible exact H2_) | (have H2_ := (Option.bind_some _ _).symm.trans H; with_reducible exact H2_) | with_reducible exact H | (rw [hy195]; exact H) | exact H
          have Ny195 := Aside0.mk hy195
          clear hy195
          have H' := Aside0.mk H
          clear H
          go_wp2_with (first | ((with_reducible refine gate_builtin (b := .append) (xs := #[.tmp 30, .tmp 39]) rfl ?_); at_builtin; refine Kd.R_append k33 (w0 := w) w.heap.size rfl (.tmp 30) (.tmp 39) 30 33 (.agg #[(.int .i64 0), (.int .i64 0)]) 16 rfl Try.underlying30 info33 rfl (by decide) (by omega) u11 x11_1 (⟨wrap64 ((Int.tmod a2 1125899906842624) + (wrap64 (x27_1 * (wrap64 (Int.tdiv (wrap64 ((wrap64 ((wrap64 (Int.tmod a1 262144)) + 1)) * 4)) 4))))), (Int.tmod a0 1099511627776)⟩ : S33) [.int .i64 (wrap64 ((Int.tmod a2 1125899906842624) + (wrap64 (x27_1 * (wrap64 (Int.tdiv (wrap64 ((wrap64 ((wrap64 (Int.tmod a1 262144)) + 1)) * 4)) 4)))))), .int .i64 (Int.tmod a0 1099511627776)] (fun _ => True) (fun _ => False) rfl rfl ?aP (fun _ hk => hk.elim) ?aF ?aO ?aB ?aS ?aL ?_; (case aP => exact k33_mkM _ _ _ (⟨wrap64 ((Int.tmod a2 1125899906842624) + (wrap64 (x27_1 * (wrap64 (Int.tdiv (wrap64 ((wrap64 ((wrap64 (Int.tmod a1 262144)) + 1)) * 4)) 4))))), (Int.tmod a0 1099511627776)⟩ : S33)); (case aB => exact (by repeat (first | (with_reducible first | exact HB.out | apply below_alloc | apply pw_below_drewN | apply below_drew1) | exact HB.out))); (case aF => exact (fun _ _ => trivial)); (case aO => exact (by (with_reducible repeat (first | apply Kd.R_alloc | apply Kd.R_drewN | apply Kd.R_drew)); exact HO_11.out)); (case aS => exact (below_size (by repeat (first | (with_reducible first | exact HB.out | apply below_alloc | apply pw_below_drewN | apply below_drew1) | exact HB.out)))); (case aL => have := LMc7.out; omega); intro v196 w8 ho hb hg hat; rw [← Ny195.out] at ho; have n0_ := Aside0.mk (hb); have n1_ := Aside0.mk (ho); clear HB; clear HO_11; have HB := n0_; have HO197 := n1_; clear n0_ n1_; clear ho hb hg hat))
          go_roundg k1
          case measure => have := HK1.out; omega
          case rel => exact ⟨(y195), (wrap64 (x27_1 + 1)), (by first | rfl | (simp; done) | (simp [*]; done) | (simp <;> grind)), H', ⟨by have := HK1.out; omega⟩, ⟨by (with_reducible repeat (first | apply Kd.R_alloc | apply Kd.R_drewN | apply Kd.R_drew)); exact HO197.out⟩, ⟨by repeat (first | (with_reducible first | exact HB.out | apply below_alloc | apply pw_below_drewN | apply below_drew1) | exact HB.out)⟩⟩
        · rw [if_neg c7] at H
          exact absurd H (by simp)
      · rw [if_neg c6] at H
        have c6b0 : decide (x27_1 < 4) = false := decide_eq_false c6
        clear c6
        replace H := Option.bind_eq_some_iff.mp H
        obtain ⟨⟨t198, t199⟩, A90, H⟩ := H
        replace H : (if 0 < (x11_1.length : Int) then (if 2 < (x11_1.length : Int) then ((turn_Of.f k1 (([(⟨(rd_T33 x11_1 0).f0, (rd_T33 x11_1 0).f1⟩ : S33), (⟨(rd_T33 x11_1 2).f0, (rd_T33 x11_1 2).f1⟩ : S33)] : List (S33))) (wrap64 ((wrap64 ((wrap64 (Int.tmod a1 262144)) + 1)) * 4))).bind fun bt205 => (if t194 = true then (if t199 = 0 then (if bt205.2 = 0 then (if (ceq t198.re t198.im 0 0) = true then (some (ceq bt205.1.re bt205.1.im 0 0)) else (some false)) else (some false)) else (some false)) else (some false))) else (none)) else (none)) = some r := H
        have A9 := Aside0.mk A90
        clear A90
        by_cases c10 : 0 < (x11_1.length : Int)
        · rw [if_pos c10] at H
          have c10b0 : decide (0 < (x11_1.length : Int)) = true := decide_eq_true c10
          have c10b1 : decide (0 < x11_1.length) = true := decide_eq_true (by omega)
          clear c10
          by_cases c11 : 2 < (x11_1.length : Int)
          · rw [if_pos c11] at H
            have c11b0 : decide (2 < (x11_1.length : Int)) = true := decide_eq_true c11
            have c11b1 : decide (2 < x11_1.length) = true := decide_eq_true (by omega)
            clear c11
            obtain ⟨y202, hy202⟩ : ∃ y_ : List (S33), y_ = (([(⟨(rd_T33 x11_1 0).f0, (rd_T33 x11_1 0).f1⟩ : S33), (⟨(rd_T33 x11_1 2).f0, (rd_T33 x11_1 2).f1⟩ : S33)] : List (S33))) := ⟨_, rfl⟩
            replace H : ((turn_Of.f k1 y202 (wrap64 ((wrap64 ((wrap64 (Int.tmod a1 262144)) + 1)) * 4))).bind fun bt205 => (if t194 = true then (if t199 = 0 then (if bt205.2 = 0 then (if (ceq t198.re t198.im 0 0) = true then (some (ceq bt205.1.re bt205.1.im 0 0)) else (some false)) else (some false)) else (some false)) else (some false))) = some r := by first | (rw [hy202]; with_reducible exact H) | (have H2_ := (Option.bind_some _ _).symm.trans H; rw [hy202]; with_reducible exact H2_) | (have H2_ := (Option.bind_some _ _).symm.trans H; with_reducible exact H2_) | with_reducible exact H | (rw [hy202]; exact H) | exact H
            have Ny202 := Aside0.mk hy202
            clear hy202
            replace H := Option.bind_eq_some_iff.mp H
            obtain ⟨⟨t205, t206⟩, A120, H⟩ := H
            replace H : (if t194 = true then (if t199 = 0 then (if t206 = 0 then (if (ceq t198.re t198.im 0 0) = true then (some (ceq t205.re t205.im 0 0)) else (some false)) else (some false)) else (some false)) else (some false)) = some r := H
            have A12 := Aside0.mk A120
            clear A120
            by_cases c13 : t194 = true
            · subst c13
              have H1 : (if t199 = 0 then (if t206 = 0 then (if (ceq t198.re t198.im 0 0) = true then (some (ceq t205.re t205.im 0 0)) else (some false)) else (some false)) else (some false)) = some r := by rw [if_pos rfl] at H; exact H
              clear H
              have H := H1
              clear H1
              by_cases c14 : t199 = 0
              · rw [if_pos c14] at H
                have c14b0 : (t199 == 0) = true := beq_iff_eq.mpr c14
                have c14b1 : (t199 != 0) = false := bne_eq_false_iff_eq.mpr c14
                clear c14
                by_cases c15 : t206 = 0
                · rw [if_pos c15] at H
                  have c15b0 : (t206 == 0) = true := beq_iff_eq.mpr c15
                  have c15b1 : (t206 != 0) = false := bne_eq_false_iff_eq.mpr c15
                  clear c15
                  by_cases c16 : (ceq t198.re t198.im 0 0) = true
                  · rw [if_pos c16] at H
                    have c16b0 : (ceq t198.re t198.im 0 0) = true := c16
                    clear c16
                    obtain rfl := Option.some.inj H
                    obtain ⟨Ao17, co17, eo17⟩ := Kd.R_slice HO_11.out
                    subst eo17
                    try go_wp2_with (first | ((with_reducible refine gate_callee (f := 23) rfl ?_); refine goesL_ (some 45) rfl rfl Try.func23 (by kernel_rfl) rfl #[.slice Ao17 x11_1.length co17, .int .i64 (wrap64 ((wrap64 ((wrap64 (Int.tmod a1 262144)) + 1)) * 4))] rfl (by (try simp only [List.map_toArray, List.map_cons, List.map_nil]); first | done | rfl | (simp only [List.length_drop, List.length_take]; rfl)) ?_; (with_reducible refine (turn_Of.calls k1 _ _ x11_1 (wrap64 ((wrap64 ((wrap64 (Int.tmod a1 262144)) + 1)) * 4)) t198 t199 _ ?side1 ?side2 A9.out).mono ?_); (case side1 => repeat (first | exact (Kd.R_reads' HO_11.out).2.2 | (with_reducible refine Kd.C_alloc ?_ _) | (with_reducible refine Kd.C_drewN ?_ _) | (with_reducible refine Kd.C_drew ?_))); (case side2 => exact (Kd.R_reads' HO_11.out).2.1); rintro e w18 ⟨rfl, hb⟩; refine ⟨_, rfl, ?_⟩; have n0_ := Aside0.mk (Kd.R_below (by (with_reducible repeat (first | apply Kd.R_alloc | apply Kd.R_drewN | apply Kd.R_drew)); exact HO_11.out) hb); have n1_ := Aside0.mk (below_step (by repeat (first | (with_reducible first | exact HB.out | apply below_alloc | apply pw_below_drewN | apply below_drew1) | exact HB.out)) hb); clear HO_11; clear HB; have HO_11 := n0_; have HB := n1_; clear n0_ n1_; (try clear hb); (try clear hb2); (try clear hk); (try clear hi)))
                    have n0_ := Aside0.mk (Kd.R_drew HO_11.out)
                    have n1_ := Aside0.mk (below_drew1 HB.out)
                    clear HO_11
                    clear HB
                    have HO_11 := n0_
                    have HB := n1_
                    clear n0_ n1_
                    have p200 : 0 ≤ (0 : Int) := (by omega)
                    have q200 : 0 < (x11_1.length : Int) := of_decide_eq_true (by first | (with_reducible assumption) | assumption)
                    obtain ⟨ad200, e200, hx200_0, hx200_1⟩ := at_T33 (Kd.R_reads' HO_11.out).2.2 0 p200 q200
                    cases e200
                    have qi200 : (0 < x11_1.length) = True := eq_true (by omega)
                    (try rw [show ((0 : Int)).toNat = 0 from rfl] at hx200_0)
                    (try rw [show 0 * 2 = 0 from rfl] at hx200_0)
                    (try rw [Addr.add_zero'] at hx200_0)
                    (try rw [show ((0 : Int)).toNat = 0 from rfl] at hx200_1)
                    (try rw [show 0 * 2 = 0 from rfl] at hx200_1)
                    (try rw [Addr.add_zero'] at hx200_1)
                    replace p200 := eq_true p200
                    replace q200 := eq_true q200
                    have p201 : 0 ≤ (2 : Int) := (by omega)
                    have q201 : 2 < (x11_1.length : Int) := of_decide_eq_true (by first | (with_reducible assumption) | assumption)
                    obtain ⟨ad201, e201, hx201_0, hx201_1⟩ := at_T33 (Kd.R_reads' HO_11.out).2.2 2 p201 q201
                    obtain rfl : ad200 = ad201 := (by injection e201)
                    (try simp only [show (2 : Int).toNat = 2 from rfl, Nat.reduceMul, Nat.reduceEqDiff, Go.Addr.add, ↓reduceIte] at hx201_0)
                    (try simp only [show (2 : Int).toNat = 2 from rfl, Nat.reduceMul, Nat.reduceEqDiff, Go.Addr.add, ↓reduceIte] at hx201_1)
                    have qi201 : (2 < x11_1.length) = True := eq_true (by omega)
                    (try rw [show ((2 : Int)).toNat = 2 from rfl] at hx201_0)
                    (try rw [show 2 * 2 = 4 from rfl] at hx201_0)
                    (try rw [show ((2 : Int)).toNat = 2 from rfl] at hx201_1)
                    (try rw [show 2 * 2 = 4 from rfl] at hx201_1)
                    replace p201 := eq_true p201
                    replace q201 := eq_true q201
                    refine start_ (n := 14) (S := fun w' => w'.cell? ad200 = some (.int .i64 ((rd_T33 x11_1 0).f0)) ∧ w'.cell? ⟨ad200.block, ad200.off + 1, none⟩ = some (.int .i64 ((rd_T33 x11_1 0).f1)) ∧ w'.cell? ⟨ad200.block, ad200.off + 4, none⟩ = some (.int .i64 ((rd_T33 x11_1 2).f0)) ∧ w'.cell? ⟨ad200.block, ad200.off + 4 + 1, none⟩ = some (.int .i64 ((rd_T33 x11_1 2).f1))) (ds := []) #[false, false, false, false, false, false, false, false, false, false, false, false, false, false] (by kernel_rfl) rfl rfl ⟨hx200_0, hx200_1, hx201_0, hx201_1⟩ (fun hHeld => ?_); refine with_tabW marigraphlaw13_TurnFlat.tab10 marigraphlaw13_TurnFlat.bits10 (fun HT_ HW_ => ?_)
                    generalize w18.drew = w19 at HO_11 HB hx200_0 hx200_1 hx201_0 hx201_1 hHeld ⊢
                    refine pure_ (i := 0) (N := some 49) (v := ?_) (a' := ?_) #[true, false, false, false, false, false, false, false, false, false, false, false, false, false] rfl rfl (any_of HT_.out (by kernel_rfl)) (fun _ _ _ h => h) (Or.inl ⟨by rfl, ?_⟩) ?_ ?_
                    rotate_left
                    · intro w'
                      go_simp
                      with_reducible rfl
                    rotate_left
                    · simp only [Act.put, List.setIfInBounds_toArray, List.set_cons_zero, List.set_cons_succ, i64_w, i32_w]
                      rfl
                    refine pure_ (i := 1) (N := some 50) (v := ?_) (a' := ?_) #[true, true, false, false, false, false, false, false, false, false, false, false, false, false] rfl rfl (any_of HT_.out (by kernel_rfl)) (fun _ _ _ h => h) (Or.inl ⟨by rfl, ?_⟩) ?_ ?_
                    rotate_left
                    · intro w'
                      go_simp
                      with_reducible rfl
                    rotate_left
                    · simp only [Act.put, List.setIfInBounds_toArray, List.set_cons_zero, List.set_cons_succ, i64_w, i32_w]
                      rfl
                    refine pure_ (i := 3) (N := some 52) (v := ?_) (a' := ?_) #[true, true, false, true, false, false, false, false, false, false, false, false, false, false] rfl rfl (any_of HT_.out (by kernel_rfl)) (fun _ _ _ h => h) (Or.inl ⟨by rfl, ?_⟩) ?_ ?_
                    rotate_left
                    · intro w'
                      go_simp
                      with_reducible rfl
                    rotate_left
                    · simp only [Act.put, List.setIfInBounds_toArray, List.set_cons_zero, List.set_cons_succ, i64_w, i32_w]
                      rfl
                    refine pure_ (i := 4) (N := some 53) (v := ?_) (a' := ?_) #[true, true, false, true, true, false, false, false, false, false, false, false, false, false] rfl rfl (any_of HT_.out (by kernel_rfl)) (fun _ _ _ h => h) (Or.inl ⟨by rfl, ?_⟩) ?_ ?_
                    rotate_left
                    · intro w'
                      go_simp
                      with_reducible rfl
                    rotate_left
                    · simp only [Act.put, List.setIfInBounds_toArray, List.set_cons_zero, List.set_cons_succ, i64_w, i32_w]
                      rfl
                    refine pure_ (i := 7) (N := some 56) (v := ?_) (a' := ?_) #[true, true, false, true, true, false, false, true, false, false, false, false, false, false] rfl rfl (any_of HT_.out (by kernel_rfl)) (fun _ _ _ h => h) (Or.inl ⟨by rfl, ?_⟩) ?_ ?_
                    rotate_left
                    · intro w'
                      go_simp
                      with_reducible rfl
                    rotate_left
                    · simp only [Act.put, List.setIfInBounds_toArray, List.set_cons_zero, List.set_cons_succ, i64_w, i32_w]
                      rfl
                    refine take_ (i := 2) (N := some 51) (v := ?_) (a' := ?_) #[true, true, true, true, true, false, false, true, false, false, false, false, false, false] rfl rfl (take_ofW HT_.out HW_.out (by kernel_rfl)) (fun _ _ _ h => h) (Or.inl ⟨by rfl, ?_⟩) hHeld ?_ ?_
                    rotate_left
                    · rintro w' ⟨s0, s1, s2, s3⟩
                      go_simp
                      with_reducible rfl
                    rotate_left
                    · simp only [Act.put, List.setIfInBounds_toArray, List.set_cons_zero, List.set_cons_succ, i64_w, i32_w]
                      rfl
                    refine take_ (i := 5) (N := some 54) (v := ?_) (a' := ?_) #[true, true, true, true, true, true, false, true, false, false, false, false, false, false] rfl rfl (take_ofW HT_.out HW_.out (by kernel_rfl)) (fun _ _ _ h => h) (Or.inl ⟨by rfl, ?_⟩) hHeld ?_ ?_
                    rotate_left
                    · rintro w' ⟨s0, s1, s2, s3⟩
                      go_simp
                      with_reducible rfl
                    rotate_left
                    · simp only [Act.put, List.setIfInBounds_toArray, List.set_cons_zero, List.set_cons_succ, i64_w, i32_w]
                      rfl
                    refine one_ (i := 6) (N := some 55) #[true, true, true, true, true, true, true, true, false, false, false, false, false, false] rfl rfl (one_of HT_.out (by kernel_rfl)) (by decide) (fun K hK => ?_)
                    refine Kd.R_lit_step k33 _ 33 ?hg (N := 55) ?hd (xs := ([(⟨(rd_T33 x11_1 0).f0, (rd_T33 x11_1 0).f1⟩ : S33), (⟨(rd_T33 x11_1 2).f0, (rd_T33 x11_1 2).f1⟩ : S33)] : List (S33))) (inner := [.int .i64 ((rd_T33 x11_1 0).f0), .int .i64 ((rd_T33 x11_1 0).f1), .int .i64 ((rd_T33 x11_1 2).f0), .int .i64 ((rd_T33 x11_1 2).f1)]) (ok := fun _ => True) (okp := fun _ => True) ?hr ?hp (fun _ hk => hk) trivial (Below.refl _ _) (Nat.le_refl _) (by simp) ?_; (case hd => rfl); (case hg => rfl); (case hr => first | (go_simp; done) | (go_simp; rfl)); (case hp => exact (Reps.c2 (show Kd.M k33 _ _ _ (⟨(rd_T33 x11_1 0).f0, (rd_T33 x11_1 0).f1⟩ : S33) [.int .i64 ((rd_T33 x11_1 0).f0), .int .i64 ((rd_T33 x11_1 0).f1)] from (k33_mkM _ _ _ (⟨(rd_T33 x11_1 0).f0, (rd_T33 x11_1 0).f1⟩ : S33) )) (Reps.c2 (show Kd.M k33 _ _ _ (⟨(rd_T33 x11_1 2).f0, (rd_T33 x11_1 2).f1⟩ : S33) [.int .i64 ((rd_T33 x11_1 2).f0), .int .i64 ((rd_T33 x11_1 2).f1)] from (k33_mkM _ _ _ (⟨(rd_T33 x11_1 2).f0, (rd_T33 x11_1 2).f1⟩ : S33) )) (Reps.none _ _))))
                    intro v203 w20 ho21 hb hg_ hnew_
                    have HS0_ := (hb.cell (World.block_lt_of_cell? _ _ (hHeld.1))).trans (hHeld.1)
                    have HS1_ := (hb.cell (World.block_lt_of_cell? _ _ (hHeld.2.1))).trans (hHeld.2.1)
                    have HS2_ := (hb.cell (World.block_lt_of_cell? _ _ (hHeld.2.2.1))).trans (hHeld.2.2.1)
                    have HS3_ := (hb.cell (World.block_lt_of_cell? _ _ (hHeld.2.2.2))).trans (hHeld.2.2.2)
                    clear hg_ hnew_
                    (first | rw [← Ny202.out] at ho21 | (simp only [Int.reduceToNat] at ho21; rw [← Ny202.out] at ho21))
                    have n0_ := Aside0.mk (Kd.R_elder' (by (with_reducible repeat (first | apply Kd.R_alloc | apply Kd.R_drewN | apply Kd.R_drew)); exact HO_11.out) (Kd.R_base ho21) hb)
                    have n1_ := Aside0.mk (Kd.R_lower (Kd.R_new' ho21 (Kd.R_lt (by (with_reducible repeat (first | apply Kd.R_alloc | apply Kd.R_drewN | apply Kd.R_drew)); exact HO_11.out))) (below_size (by repeat (first | (with_reducible first | exact HB.out | apply below_alloc | apply pw_below_drewN | apply below_drew1) | exact HB.out))))
                    have n2_ := Aside0.mk (below_step (by repeat (first | (with_reducible first | exact HB.out | apply below_alloc | apply pw_below_drewN | apply below_drew1) | exact HB.out)) hb)
                    clear HO_11
                    clear HB
                    have HO_11 := n0_
                    have HO204 := n1_
                    have HB := n2_
                    clear n0_ n1_ n2_
                    clear hb ho21
                    obtain ⟨Ao22, co22, eo22⟩ := Kd.R_slice HO204.out
                    (first | subst eo22 | (injection eo22 with f1_ f2_ f3_; have f4_ := f1_.symm; have f5_ := f3_.symm; clear f1_ f2_ f3_; subst f4_; subst f5_))
                    refine hK.out _ _ ⟨HS0_, HS1_, HS2_, HS3_⟩ (fun hHeld => ?_)
                    clear hK K
                    refine norm_ (a' := ?_) ?_ ?_
                    rotate_left
                    · show Act.put _ (some 55) _ = _
                      simp only [Act.put, List.setIfInBounds_toArray, List.set_cons_zero, List.set_cons_succ, i64_w, i32_w]
                      rfl
                    refine one_ (i := 8) (N := some 57) #[true, true, true, true, true, true, true, true, true, false, false, false, false, false] rfl rfl (one_of HT_.out (by kernel_rfl)) (by decide) (fun K hK => ?_)
                    refine goes_ Try.func23 (by kernel_rfl) rfl #[.slice Ao22 y202.length co22, .int .i64 (wrap64 ((wrap64 ((wrap64 (Int.tmod a1 262144)) + 1)) * 4))] (by rfl) rfl rfl (by (try simp only [List.map_toArray, List.map_cons, List.map_nil]); first | done | rfl | (simp only [List.length_drop, List.length_take]; rfl)) ?_
                    with_reducible refine (turn_Of.calls k1 _ _ y202 (wrap64 ((wrap64 ((wrap64 (Int.tmod a1 262144)) + 1)) * 4)) t205 t206 _ ?side1 ?side2 A12.out).mono ?_
                    (case side1 => repeat (first | exact (Kd.R_reads' HO204.out).2.2 | (with_reducible refine Kd.C_alloc ?_ _) | (with_reducible refine Kd.C_drewN ?_ _) | (with_reducible refine Kd.C_drew ?_)))
                    (case side2 => exact (Kd.R_reads' HO204.out).2.1)
                    rintro e w23 ⟨rfl, hb⟩
                    have HS0_ := (hb.cell (World.block_lt_of_cell? _ _ (hHeld.1))).trans (hHeld.1)
                    have HS1_ := (hb.cell (World.block_lt_of_cell? _ _ (hHeld.2.1))).trans (hHeld.2.1)
                    have HS2_ := (hb.cell (World.block_lt_of_cell? _ _ (hHeld.2.2.1))).trans (hHeld.2.2.1)
                    have HS3_ := (hb.cell (World.block_lt_of_cell? _ _ (hHeld.2.2.2))).trans (hHeld.2.2.2)
                    refine ⟨_, rfl, ?_⟩
                    have n0_ := Aside0.mk (Kd.R_below (by (with_reducible repeat (first | apply Kd.R_alloc | apply Kd.R_drewN | apply Kd.R_drew)); exact HO_11.out) hb)
                    have n1_ := Aside0.mk (Kd.R_below (by (with_reducible repeat (first | apply Kd.R_alloc | apply Kd.R_drewN | apply Kd.R_drew)); exact HO204.out) hb)
                    have n2_ := Aside0.mk (below_step (by repeat (first | (with_reducible first | exact HB.out | apply below_alloc | apply pw_below_drewN | apply below_drew1) | exact HB.out)) hb)
                    clear HO_11
                    clear HO204
                    clear HB
                    have HO_11 := n0_
                    have HO204 := n1_
                    have HB := n2_
                    clear n0_ n1_ n2_
                    (try clear hb)
                    (try clear hb2)
                    (try clear hk)
                    (try clear hi)
                    refine hK.out _ _ ⟨HS0_, HS1_, HS2_, HS3_⟩ (fun hHeld => ?_)
                    clear hK K
                    refine norm_ (a' := ?_) ?_ ?_
                    rotate_left
                    · show Act.put _ (some 57) _ = _
                      simp only [Act.put, List.setIfInBounds_toArray, List.set_cons_zero, List.set_cons_succ, i64_w, i32_w]
                      rfl
                    refine pure_ (i := 9) (N := some 48) (v := ?_) (a' := ?_) #[true, true, true, true, true, true, true, true, true, true, false, false, false, false] rfl rfl (any_of HT_.out (by kernel_rfl)) (fun _ _ _ h => h) (Or.inl ⟨by rfl, ?_⟩) ?_ ?_
                    rotate_left
                    · intro w'
                      go_simp
                      with_reducible rfl
                    rotate_left
                    · simp only [Act.put, List.setIfInBounds_toArray, List.set_cons_zero, List.set_cons_succ, i64_w, i32_w]
                      rfl
                    refine pure_ (i := 10) (N := some 58) (v := ?_) (a' := ?_) #[true, true, true, true, true, true, true, true, true, true, true, false, false, false] rfl rfl (any_of HT_.out (by kernel_rfl)) (fun _ _ _ h => h) (Or.inl ⟨by rfl, ?_⟩) ?_ ?_
                    rotate_left
                    · intro w'
                      go_simp
                      with_reducible rfl
                    rotate_left
                    · simp only [Act.put, List.setIfInBounds_toArray, List.set_cons_zero, List.set_cons_succ, i64_w, i32_w]
                      rfl
                    refine pure_ (i := 11) (N := some 59) (v := ?_) (a' := ?_) #[true, true, true, true, true, true, true, true, true, true, true, true, false, false] rfl rfl (any_of HT_.out (by kernel_rfl)) (fun _ _ _ h => h) (Or.inl ⟨by rfl, ?_⟩) ?_ ?_
                    rotate_left
                    · intro w'
                      go_simp
                      with_reducible rfl
                    rotate_left
                    · simp only [Act.put, List.setIfInBounds_toArray, List.set_cons_zero, List.set_cons_succ, i64_w, i32_w]
                      rfl
                    refine pure_ (i := 12) (N := some 15) (v := ?_) (a' := ?_) #[true, true, true, true, true, true, true, true, true, true, true, true, true, false] rfl rfl (any_of HT_.out (by kernel_rfl)) (fun _ _ _ h => h) (Or.inl ⟨by rfl, ?_⟩) ?_ ?_
                    rotate_left
                    · intro w'
                      go_simp
                      with_reducible rfl
                    rotate_left
                    · simp only [Act.put, List.setIfInBounds_toArray, List.set_cons_zero, List.set_cons_succ, i64_w, i32_w]
                      rfl
                    refine pure_ (i := 13) (N := some 16) (v := ?_) (a' := ?_) #[true, true, true, true, true, true, true, true, true, true, true, true, true, true] rfl rfl (any_of HT_.out (by kernel_rfl)) (fun _ _ _ h => h) (Or.inl ⟨by rfl, ?_⟩) ?_ ?_
                    rotate_left
                    · intro w'
                      go_simp
                      with_reducible rfl
                    rotate_left
                    · simp only [Act.put, List.setIfInBounds_toArray, List.set_cons_zero, List.set_cons_succ, i64_w, i32_w]
                      rfl
                    refine done_ (done_of HT_.out (by kernel_rfl)) ?_
                    try go_wp2
                    go_ret
                    exact ⟨by first | rfl | (simp [errW_none, errW_some] <;> rfl) | (simp [*, errW_none, errW_some] <;> rfl), by repeat (first | (with_reducible first | exact HB.out | apply below_alloc | apply pw_below_drewN | apply below_drew1) | exact HB.out)⟩
                  · rw [if_neg c16] at H
                    have c16b0 : (ceq t198.re t198.im 0 0) = false := by simpa using c16
                    clear c16
                    obtain rfl := Option.some.inj H
                    obtain ⟨Ao24, co24, eo24⟩ := Kd.R_slice HO_11.out
                    subst eo24
                    try go_wp2_with (first | ((with_reducible refine gate_callee (f := 23) rfl ?_); refine goesL_ (some 45) rfl rfl Try.func23 (by kernel_rfl) rfl #[.slice Ao24 x11_1.length co24, .int .i64 (wrap64 ((wrap64 ((wrap64 (Int.tmod a1 262144)) + 1)) * 4))] rfl (by (try simp only [List.map_toArray, List.map_cons, List.map_nil]); first | done | rfl | (simp only [List.length_drop, List.length_take]; rfl)) ?_; (with_reducible refine (turn_Of.calls k1 _ _ x11_1 (wrap64 ((wrap64 ((wrap64 (Int.tmod a1 262144)) + 1)) * 4)) t198 t199 _ ?side1 ?side2 A9.out).mono ?_); (case side1 => repeat (first | exact (Kd.R_reads' HO_11.out).2.2 | (with_reducible refine Kd.C_alloc ?_ _) | (with_reducible refine Kd.C_drewN ?_ _) | (with_reducible refine Kd.C_drew ?_))); (case side2 => exact (Kd.R_reads' HO_11.out).2.1); rintro e w25 ⟨rfl, hb⟩; refine ⟨_, rfl, ?_⟩; have n0_ := Aside0.mk (Kd.R_below (by (with_reducible repeat (first | apply Kd.R_alloc | apply Kd.R_drewN | apply Kd.R_drew)); exact HO_11.out) hb); have n1_ := Aside0.mk (below_step (by repeat (first | (with_reducible first | exact HB.out | apply below_alloc | apply pw_below_drewN | apply below_drew1) | exact HB.out)) hb); clear HO_11; clear HB; have HO_11 := n0_; have HB := n1_; clear n0_ n1_; (try clear hb); (try clear hb2); (try clear hk); (try clear hi)))
                    have n0_ := Aside0.mk (Kd.R_drew HO_11.out)
                    have n1_ := Aside0.mk (below_drew1 HB.out)
                    clear HO_11
                    clear HB
                    have HO_11 := n0_
                    have HB := n1_
                    clear n0_ n1_
                    have p200 : 0 ≤ (0 : Int) := (by omega)
                    have q200 : 0 < (x11_1.length : Int) := of_decide_eq_true (by first | (with_reducible assumption) | assumption)
                    obtain ⟨ad200, e200, hx200_0, hx200_1⟩ := at_T33 (Kd.R_reads' HO_11.out).2.2 0 p200 q200
                    cases e200
                    have qi200 : (0 < x11_1.length) = True := eq_true (by omega)
                    (try rw [show ((0 : Int)).toNat = 0 from rfl] at hx200_0)
                    (try rw [show 0 * 2 = 0 from rfl] at hx200_0)
                    (try rw [Addr.add_zero'] at hx200_0)
                    (try rw [show ((0 : Int)).toNat = 0 from rfl] at hx200_1)
                    (try rw [show 0 * 2 = 0 from rfl] at hx200_1)
                    (try rw [Addr.add_zero'] at hx200_1)
                    replace p200 := eq_true p200
                    replace q200 := eq_true q200
                    have p201 : 0 ≤ (2 : Int) := (by omega)
                    have q201 : 2 < (x11_1.length : Int) := of_decide_eq_true (by first | (with_reducible assumption) | assumption)
                    obtain ⟨ad201, e201, hx201_0, hx201_1⟩ := at_T33 (Kd.R_reads' HO_11.out).2.2 2 p201 q201
                    obtain rfl : ad200 = ad201 := (by injection e201)
                    (try simp only [show (2 : Int).toNat = 2 from rfl, Nat.reduceMul, Nat.reduceEqDiff, Go.Addr.add, ↓reduceIte] at hx201_0)
                    (try simp only [show (2 : Int).toNat = 2 from rfl, Nat.reduceMul, Nat.reduceEqDiff, Go.Addr.add, ↓reduceIte] at hx201_1)
                    have qi201 : (2 < x11_1.length) = True := eq_true (by omega)
                    (try rw [show ((2 : Int)).toNat = 2 from rfl] at hx201_0)
                    (try rw [show 2 * 2 = 4 from rfl] at hx201_0)
                    (try rw [show ((2 : Int)).toNat = 2 from rfl] at hx201_1)
                    (try rw [show 2 * 2 = 4 from rfl] at hx201_1)
                    replace p201 := eq_true p201
                    replace q201 := eq_true q201
                    refine start_ (n := 14) (S := fun w' => w'.cell? ad200 = some (.int .i64 ((rd_T33 x11_1 0).f0)) ∧ w'.cell? ⟨ad200.block, ad200.off + 1, none⟩ = some (.int .i64 ((rd_T33 x11_1 0).f1)) ∧ w'.cell? ⟨ad200.block, ad200.off + 4, none⟩ = some (.int .i64 ((rd_T33 x11_1 2).f0)) ∧ w'.cell? ⟨ad200.block, ad200.off + 4 + 1, none⟩ = some (.int .i64 ((rd_T33 x11_1 2).f1))) (ds := []) #[false, false, false, false, false, false, false, false, false, false, false, false, false, false] (by kernel_rfl) rfl rfl ⟨hx200_0, hx200_1, hx201_0, hx201_1⟩ (fun hHeld => ?_); refine with_tabW marigraphlaw13_TurnFlat.tab10 marigraphlaw13_TurnFlat.bits10 (fun HT_ HW_ => ?_)
                    generalize w25.drew = w26 at HO_11 HB hx200_0 hx200_1 hx201_0 hx201_1 hHeld ⊢
                    refine pure_ (i := 0) (N := some 49) (v := ?_) (a' := ?_) #[true, false, false, false, false, false, false, false, false, false, false, false, false, false] rfl rfl (any_of HT_.out (by kernel_rfl)) (fun _ _ _ h => h) (Or.inl ⟨by rfl, ?_⟩) ?_ ?_
                    rotate_left
                    · intro w'
                      go_simp
                      with_reducible rfl
                    rotate_left
                    · simp only [Act.put, List.setIfInBounds_toArray, List.set_cons_zero, List.set_cons_succ, i64_w, i32_w]
                      rfl
                    refine pure_ (i := 1) (N := some 50) (v := ?_) (a' := ?_) #[true, true, false, false, false, false, false, false, false, false, false, false, false, false] rfl rfl (any_of HT_.out (by kernel_rfl)) (fun _ _ _ h => h) (Or.inl ⟨by rfl, ?_⟩) ?_ ?_
                    rotate_left
                    · intro w'
                      go_simp
                      with_reducible rfl
                    rotate_left
                    · simp only [Act.put, List.setIfInBounds_toArray, List.set_cons_zero, List.set_cons_succ, i64_w, i32_w]
                      rfl
                    refine pure_ (i := 3) (N := some 52) (v := ?_) (a' := ?_) #[true, true, false, true, false, false, false, false, false, false, false, false, false, false] rfl rfl (any_of HT_.out (by kernel_rfl)) (fun _ _ _ h => h) (Or.inl ⟨by rfl, ?_⟩) ?_ ?_
                    rotate_left
                    · intro w'
                      go_simp
                      with_reducible rfl
                    rotate_left
                    · simp only [Act.put, List.setIfInBounds_toArray, List.set_cons_zero, List.set_cons_succ, i64_w, i32_w]
                      rfl
                    refine pure_ (i := 4) (N := some 53) (v := ?_) (a' := ?_) #[true, true, false, true, true, false, false, false, false, false, false, false, false, false] rfl rfl (any_of HT_.out (by kernel_rfl)) (fun _ _ _ h => h) (Or.inl ⟨by rfl, ?_⟩) ?_ ?_
                    rotate_left
                    · intro w'
                      go_simp
                      with_reducible rfl
                    rotate_left
                    · simp only [Act.put, List.setIfInBounds_toArray, List.set_cons_zero, List.set_cons_succ, i64_w, i32_w]
                      rfl
                    refine pure_ (i := 7) (N := some 56) (v := ?_) (a' := ?_) #[true, true, false, true, true, false, false, true, false, false, false, false, false, false] rfl rfl (any_of HT_.out (by kernel_rfl)) (fun _ _ _ h => h) (Or.inl ⟨by rfl, ?_⟩) ?_ ?_
                    rotate_left
                    · intro w'
                      go_simp
                      with_reducible rfl
                    rotate_left
                    · simp only [Act.put, List.setIfInBounds_toArray, List.set_cons_zero, List.set_cons_succ, i64_w, i32_w]
                      rfl
                    refine take_ (i := 2) (N := some 51) (v := ?_) (a' := ?_) #[true, true, true, true, true, false, false, true, false, false, false, false, false, false] rfl rfl (take_ofW HT_.out HW_.out (by kernel_rfl)) (fun _ _ _ h => h) (Or.inl ⟨by rfl, ?_⟩) hHeld ?_ ?_
                    rotate_left
                    · rintro w' ⟨s0, s1, s2, s3⟩
                      go_simp
                      with_reducible rfl
                    rotate_left
                    · simp only [Act.put, List.setIfInBounds_toArray, List.set_cons_zero, List.set_cons_succ, i64_w, i32_w]
                      rfl
                    refine take_ (i := 5) (N := some 54) (v := ?_) (a' := ?_) #[true, true, true, true, true, true, false, true, false, false, false, false, false, false] rfl rfl (take_ofW HT_.out HW_.out (by kernel_rfl)) (fun _ _ _ h => h) (Or.inl ⟨by rfl, ?_⟩) hHeld ?_ ?_
                    rotate_left
                    · rintro w' ⟨s0, s1, s2, s3⟩
                      go_simp
                      with_reducible rfl
                    rotate_left
                    · simp only [Act.put, List.setIfInBounds_toArray, List.set_cons_zero, List.set_cons_succ, i64_w, i32_w]
                      rfl
                    refine one_ (i := 6) (N := some 55) #[true, true, true, true, true, true, true, true, false, false, false, false, false, false] rfl rfl (one_of HT_.out (by kernel_rfl)) (by decide) (fun K hK => ?_)
                    refine Kd.R_lit_step k33 _ 33 ?hg (N := 55) ?hd (xs := ([(⟨(rd_T33 x11_1 0).f0, (rd_T33 x11_1 0).f1⟩ : S33), (⟨(rd_T33 x11_1 2).f0, (rd_T33 x11_1 2).f1⟩ : S33)] : List (S33))) (inner := [.int .i64 ((rd_T33 x11_1 0).f0), .int .i64 ((rd_T33 x11_1 0).f1), .int .i64 ((rd_T33 x11_1 2).f0), .int .i64 ((rd_T33 x11_1 2).f1)]) (ok := fun _ => True) (okp := fun _ => True) ?hr ?hp (fun _ hk => hk) trivial (Below.refl _ _) (Nat.le_refl _) (by simp) ?_; (case hd => rfl); (case hg => rfl); (case hr => first | (go_simp; done) | (go_simp; rfl)); (case hp => exact (Reps.c2 (show Kd.M k33 _ _ _ (⟨(rd_T33 x11_1 0).f0, (rd_T33 x11_1 0).f1⟩ : S33) [.int .i64 ((rd_T33 x11_1 0).f0), .int .i64 ((rd_T33 x11_1 0).f1)] from (k33_mkM _ _ _ (⟨(rd_T33 x11_1 0).f0, (rd_T33 x11_1 0).f1⟩ : S33) )) (Reps.c2 (show Kd.M k33 _ _ _ (⟨(rd_T33 x11_1 2).f0, (rd_T33 x11_1 2).f1⟩ : S33) [.int .i64 ((rd_T33 x11_1 2).f0), .int .i64 ((rd_T33 x11_1 2).f1)] from (k33_mkM _ _ _ (⟨(rd_T33 x11_1 2).f0, (rd_T33 x11_1 2).f1⟩ : S33) )) (Reps.none _ _))))
                    intro v203 w27 ho28 hb hg_ hnew_
                    have HS0_ := (hb.cell (World.block_lt_of_cell? _ _ (hHeld.1))).trans (hHeld.1)
                    have HS1_ := (hb.cell (World.block_lt_of_cell? _ _ (hHeld.2.1))).trans (hHeld.2.1)
                    have HS2_ := (hb.cell (World.block_lt_of_cell? _ _ (hHeld.2.2.1))).trans (hHeld.2.2.1)
                    have HS3_ := (hb.cell (World.block_lt_of_cell? _ _ (hHeld.2.2.2))).trans (hHeld.2.2.2)
                    clear hg_ hnew_
                    (first | rw [← Ny202.out] at ho28 | (simp only [Int.reduceToNat] at ho28; rw [← Ny202.out] at ho28))
                    have n0_ := Aside0.mk (Kd.R_elder' (by (with_reducible repeat (first | apply Kd.R_alloc | apply Kd.R_drewN | apply Kd.R_drew)); exact HO_11.out) (Kd.R_base ho28) hb)
                    have n1_ := Aside0.mk (Kd.R_lower (Kd.R_new' ho28 (Kd.R_lt (by (with_reducible repeat (first | apply Kd.R_alloc | apply Kd.R_drewN | apply Kd.R_drew)); exact HO_11.out))) (below_size (by repeat (first | (with_reducible first | exact HB.out | apply below_alloc | apply pw_below_drewN | apply below_drew1) | exact HB.out))))
                    have n2_ := Aside0.mk (below_step (by repeat (first | (with_reducible first | exact HB.out | apply below_alloc | apply pw_below_drewN | apply below_drew1) | exact HB.out)) hb)
                    clear HO_11
                    clear HB
                    have HO_11 := n0_
                    have HO204 := n1_
                    have HB := n2_
                    clear n0_ n1_ n2_
                    clear hb ho28
                    obtain ⟨Ao29, co29, eo29⟩ := Kd.R_slice HO204.out
                    (first | subst eo29 | (injection eo29 with f1_ f2_ f3_; have f4_ := f1_.symm; have f5_ := f3_.symm; clear f1_ f2_ f3_; subst f4_; subst f5_))
                    refine hK.out _ _ ⟨HS0_, HS1_, HS2_, HS3_⟩ (fun hHeld => ?_)
                    clear hK K
                    refine norm_ (a' := ?_) ?_ ?_
                    rotate_left
                    · show Act.put _ (some 55) _ = _
                      simp only [Act.put, List.setIfInBounds_toArray, List.set_cons_zero, List.set_cons_succ, i64_w, i32_w]
                      rfl
                    refine one_ (i := 8) (N := some 57) #[true, true, true, true, true, true, true, true, true, false, false, false, false, false] rfl rfl (one_of HT_.out (by kernel_rfl)) (by decide) (fun K hK => ?_)
                    refine goes_ Try.func23 (by kernel_rfl) rfl #[.slice Ao29 y202.length co29, .int .i64 (wrap64 ((wrap64 ((wrap64 (Int.tmod a1 262144)) + 1)) * 4))] (by rfl) rfl rfl (by (try simp only [List.map_toArray, List.map_cons, List.map_nil]); first | done | rfl | (simp only [List.length_drop, List.length_take]; rfl)) ?_
                    with_reducible refine (turn_Of.calls k1 _ _ y202 (wrap64 ((wrap64 ((wrap64 (Int.tmod a1 262144)) + 1)) * 4)) t205 t206 _ ?side1 ?side2 A12.out).mono ?_
                    (case side1 => repeat (first | exact (Kd.R_reads' HO204.out).2.2 | (with_reducible refine Kd.C_alloc ?_ _) | (with_reducible refine Kd.C_drewN ?_ _) | (with_reducible refine Kd.C_drew ?_)))
                    (case side2 => exact (Kd.R_reads' HO204.out).2.1)
                    rintro e w30 ⟨rfl, hb⟩
                    have HS0_ := (hb.cell (World.block_lt_of_cell? _ _ (hHeld.1))).trans (hHeld.1)
                    have HS1_ := (hb.cell (World.block_lt_of_cell? _ _ (hHeld.2.1))).trans (hHeld.2.1)
                    have HS2_ := (hb.cell (World.block_lt_of_cell? _ _ (hHeld.2.2.1))).trans (hHeld.2.2.1)
                    have HS3_ := (hb.cell (World.block_lt_of_cell? _ _ (hHeld.2.2.2))).trans (hHeld.2.2.2)
                    refine ⟨_, rfl, ?_⟩
                    have n0_ := Aside0.mk (Kd.R_below (by (with_reducible repeat (first | apply Kd.R_alloc | apply Kd.R_drewN | apply Kd.R_drew)); exact HO_11.out) hb)
                    have n1_ := Aside0.mk (Kd.R_below (by (with_reducible repeat (first | apply Kd.R_alloc | apply Kd.R_drewN | apply Kd.R_drew)); exact HO204.out) hb)
                    have n2_ := Aside0.mk (below_step (by repeat (first | (with_reducible first | exact HB.out | apply below_alloc | apply pw_below_drewN | apply below_drew1) | exact HB.out)) hb)
                    clear HO_11
                    clear HO204
                    clear HB
                    have HO_11 := n0_
                    have HO204 := n1_
                    have HB := n2_
                    clear n0_ n1_ n2_
                    (try clear hb)
                    (try clear hb2)
                    (try clear hk)
                    (try clear hi)
                    refine hK.out _ _ ⟨HS0_, HS1_, HS2_, HS3_⟩ (fun hHeld => ?_)
                    clear hK K
                    refine norm_ (a' := ?_) ?_ ?_
                    rotate_left
                    · show Act.put _ (some 57) _ = _
                      simp only [Act.put, List.setIfInBounds_toArray, List.set_cons_zero, List.set_cons_succ, i64_w, i32_w]
                      rfl
                    refine pure_ (i := 9) (N := some 48) (v := ?_) (a' := ?_) #[true, true, true, true, true, true, true, true, true, true, false, false, false, false] rfl rfl (any_of HT_.out (by kernel_rfl)) (fun _ _ _ h => h) (Or.inl ⟨by rfl, ?_⟩) ?_ ?_
                    rotate_left
                    · intro w'
                      go_simp
                      with_reducible rfl
                    rotate_left
                    · simp only [Act.put, List.setIfInBounds_toArray, List.set_cons_zero, List.set_cons_succ, i64_w, i32_w]
                      rfl
                    refine pure_ (i := 10) (N := some 58) (v := ?_) (a' := ?_) #[true, true, true, true, true, true, true, true, true, true, true, false, false, false] rfl rfl (any_of HT_.out (by kernel_rfl)) (fun _ _ _ h => h) (Or.inl ⟨by rfl, ?_⟩) ?_ ?_
                    rotate_left
                    · intro w'
                      go_simp
                      with_reducible rfl
                    rotate_left
                    · simp only [Act.put, List.setIfInBounds_toArray, List.set_cons_zero, List.set_cons_succ, i64_w, i32_w]
                      rfl
                    refine pure_ (i := 11) (N := some 59) (v := ?_) (a' := ?_) #[true, true, true, true, true, true, true, true, true, true, true, true, false, false] rfl rfl (any_of HT_.out (by kernel_rfl)) (fun _ _ _ h => h) (Or.inl ⟨by rfl, ?_⟩) ?_ ?_
                    rotate_left
                    · intro w'
                      go_simp
                      with_reducible rfl
                    rotate_left
                    · simp only [Act.put, List.setIfInBounds_toArray, List.set_cons_zero, List.set_cons_succ, i64_w, i32_w]
                      rfl
                    refine pure_ (i := 12) (N := some 15) (v := ?_) (a' := ?_) #[true, true, true, true, true, true, true, true, true, true, true, true, true, false] rfl rfl (any_of HT_.out (by kernel_rfl)) (fun _ _ _ h => h) (Or.inl ⟨by rfl, ?_⟩) ?_ ?_
                    rotate_left
                    · intro w'
                      go_simp
                      with_reducible rfl
                    rotate_left
                    · simp only [Act.put, List.setIfInBounds_toArray, List.set_cons_zero, List.set_cons_succ, i64_w, i32_w]
                      rfl
                    refine pure_ (i := 13) (N := some 16) (v := ?_) (a' := ?_) #[true, true, true, true, true, true, true, true, true, true, true, true, true, true] rfl rfl (any_of HT_.out (by kernel_rfl)) (fun _ _ _ h => h) (Or.inl ⟨by rfl, ?_⟩) ?_ ?_
                    rotate_left
                    · intro w'
                      go_simp
                      with_reducible rfl
                    rotate_left
                    · simp only [Act.put, List.setIfInBounds_toArray, List.set_cons_zero, List.set_cons_succ, i64_w, i32_w]
                      rfl
                    refine done_ (done_of HT_.out (by kernel_rfl)) ?_
                    try go_wp2
                    go_ret
                    exact ⟨by first | rfl | (simp [errW_none, errW_some] <;> rfl) | (simp [*, errW_none, errW_some] <;> rfl), by repeat (first | (with_reducible first | exact HB.out | apply below_alloc | apply pw_below_drewN | apply below_drew1) | exact HB.out)⟩
                · rw [if_neg c15] at H
                  have c15b0 : (t206 == 0) = false := beq_eq_false_iff_ne.mpr c15
                  have c15b1 : (t206 != 0) = true := bne_iff_ne.mpr c15
                  obtain rfl := Option.some.inj H
                  obtain ⟨Ao31, co31, eo31⟩ := Kd.R_slice HO_11.out
                  subst eo31
                  try go_wp2_with (first | ((with_reducible refine gate_callee (f := 23) rfl ?_); refine goesL_ (some 45) rfl rfl Try.func23 (by kernel_rfl) rfl #[.slice Ao31 x11_1.length co31, .int .i64 (wrap64 ((wrap64 ((wrap64 (Int.tmod a1 262144)) + 1)) * 4))] rfl (by (try simp only [List.map_toArray, List.map_cons, List.map_nil]); first | done | rfl | (simp only [List.length_drop, List.length_take]; rfl)) ?_; (with_reducible refine (turn_Of.calls k1 _ _ x11_1 (wrap64 ((wrap64 ((wrap64 (Int.tmod a1 262144)) + 1)) * 4)) t198 t199 _ ?side1 ?side2 A9.out).mono ?_); (case side1 => repeat (first | exact (Kd.R_reads' HO_11.out).2.2 | (with_reducible refine Kd.C_alloc ?_ _) | (with_reducible refine Kd.C_drewN ?_ _) | (with_reducible refine Kd.C_drew ?_))); (case side2 => exact (Kd.R_reads' HO_11.out).2.1); rintro e w32 ⟨rfl, hb⟩; refine ⟨_, rfl, ?_⟩; have n0_ := Aside0.mk (Kd.R_below (by (with_reducible repeat (first | apply Kd.R_alloc | apply Kd.R_drewN | apply Kd.R_drew)); exact HO_11.out) hb); have n1_ := Aside0.mk (below_step (by repeat (first | (with_reducible first | exact HB.out | apply below_alloc | apply pw_below_drewN | apply below_drew1) | exact HB.out)) hb); clear HO_11; clear HB; have HO_11 := n0_; have HB := n1_; clear n0_ n1_; (try clear hb); (try clear hb2); (try clear hk); (try clear hi)))
                  have n0_ := Aside0.mk (Kd.R_drew HO_11.out)
                  have n1_ := Aside0.mk (below_drew1 HB.out)
                  clear HO_11
                  clear HB
                  have HO_11 := n0_
                  have HB := n1_
                  clear n0_ n1_
                  have p200 : 0 ≤ (0 : Int) := (by omega)
                  have q200 : 0 < (x11_1.length : Int) := of_decide_eq_true (by first | (with_reducible assumption) | assumption)
                  obtain ⟨ad200, e200, hx200_0, hx200_1⟩ := at_T33 (Kd.R_reads' HO_11.out).2.2 0 p200 q200
                  cases e200
                  have qi200 : (0 < x11_1.length) = True := eq_true (by omega)
                  (try rw [show ((0 : Int)).toNat = 0 from rfl] at hx200_0)
                  (try rw [show 0 * 2 = 0 from rfl] at hx200_0)
                  (try rw [Addr.add_zero'] at hx200_0)
                  (try rw [show ((0 : Int)).toNat = 0 from rfl] at hx200_1)
                  (try rw [show 0 * 2 = 0 from rfl] at hx200_1)
                  (try rw [Addr.add_zero'] at hx200_1)
                  replace p200 := eq_true p200
                  replace q200 := eq_true q200
                  have p201 : 0 ≤ (2 : Int) := (by omega)
                  have q201 : 2 < (x11_1.length : Int) := of_decide_eq_true (by first | (with_reducible assumption) | assumption)
                  obtain ⟨ad201, e201, hx201_0, hx201_1⟩ := at_T33 (Kd.R_reads' HO_11.out).2.2 2 p201 q201
                  obtain rfl : ad200 = ad201 := (by injection e201)
                  (try simp only [show (2 : Int).toNat = 2 from rfl, Nat.reduceMul, Nat.reduceEqDiff, Go.Addr.add, ↓reduceIte] at hx201_0)
                  (try simp only [show (2 : Int).toNat = 2 from rfl, Nat.reduceMul, Nat.reduceEqDiff, Go.Addr.add, ↓reduceIte] at hx201_1)
                  have qi201 : (2 < x11_1.length) = True := eq_true (by omega)
                  (try rw [show ((2 : Int)).toNat = 2 from rfl] at hx201_0)
                  (try rw [show 2 * 2 = 4 from rfl] at hx201_0)
                  (try rw [show ((2 : Int)).toNat = 2 from rfl] at hx201_1)
                  (try rw [show 2 * 2 = 4 from rfl] at hx201_1)
                  replace p201 := eq_true p201
                  replace q201 := eq_true q201
                  refine start_ (n := 14) (S := fun w' => w'.cell? ad200 = some (.int .i64 ((rd_T33 x11_1 0).f0)) ∧ w'.cell? ⟨ad200.block, ad200.off + 1, none⟩ = some (.int .i64 ((rd_T33 x11_1 0).f1)) ∧ w'.cell? ⟨ad200.block, ad200.off + 4, none⟩ = some (.int .i64 ((rd_T33 x11_1 2).f0)) ∧ w'.cell? ⟨ad200.block, ad200.off + 4 + 1, none⟩ = some (.int .i64 ((rd_T33 x11_1 2).f1))) (ds := []) #[false, false, false, false, false, false, false, false, false, false, false, false, false, false] (by kernel_rfl) rfl rfl ⟨hx200_0, hx200_1, hx201_0, hx201_1⟩ (fun hHeld => ?_); refine with_tabW marigraphlaw13_TurnFlat.tab10 marigraphlaw13_TurnFlat.bits10 (fun HT_ HW_ => ?_)
                  generalize w32.drew = w33 at HO_11 HB hx200_0 hx200_1 hx201_0 hx201_1 hHeld ⊢
                  refine pure_ (i := 0) (N := some 49) (v := ?_) (a' := ?_) #[true, false, false, false, false, false, false, false, false, false, false, false, false, false] rfl rfl (any_of HT_.out (by kernel_rfl)) (fun _ _ _ h => h) (Or.inl ⟨by rfl, ?_⟩) ?_ ?_
                  rotate_left
                  · intro w'
                    go_simp
                    with_reducible rfl
                  rotate_left
                  · simp only [Act.put, List.setIfInBounds_toArray, List.set_cons_zero, List.set_cons_succ, i64_w, i32_w]
                    rfl
                  refine pure_ (i := 1) (N := some 50) (v := ?_) (a' := ?_) #[true, true, false, false, false, false, false, false, false, false, false, false, false, false] rfl rfl (any_of HT_.out (by kernel_rfl)) (fun _ _ _ h => h) (Or.inl ⟨by rfl, ?_⟩) ?_ ?_
                  rotate_left
                  · intro w'
                    go_simp
                    with_reducible rfl
                  rotate_left
                  · simp only [Act.put, List.setIfInBounds_toArray, List.set_cons_zero, List.set_cons_succ, i64_w, i32_w]
                    rfl
                  refine pure_ (i := 3) (N := some 52) (v := ?_) (a' := ?_) #[true, true, false, true, false, false, false, false, false, false, false, false, false, false] rfl rfl (any_of HT_.out (by kernel_rfl)) (fun _ _ _ h => h) (Or.inl ⟨by rfl, ?_⟩) ?_ ?_
                  rotate_left
                  · intro w'
                    go_simp
                    with_reducible rfl
                  rotate_left
                  · simp only [Act.put, List.setIfInBounds_toArray, List.set_cons_zero, List.set_cons_succ, i64_w, i32_w]
                    rfl
                  refine pure_ (i := 4) (N := some 53) (v := ?_) (a' := ?_) #[true, true, false, true, true, false, false, false, false, false, false, false, false, false] rfl rfl (any_of HT_.out (by kernel_rfl)) (fun _ _ _ h => h) (Or.inl ⟨by rfl, ?_⟩) ?_ ?_
                  rotate_left
                  · intro w'
                    go_simp
                    with_reducible rfl
                  rotate_left
                  · simp only [Act.put, List.setIfInBounds_toArray, List.set_cons_zero, List.set_cons_succ, i64_w, i32_w]
                    rfl
                  refine pure_ (i := 7) (N := some 56) (v := ?_) (a' := ?_) #[true, true, false, true, true, false, false, true, false, false, false, false, false, false] rfl rfl (any_of HT_.out (by kernel_rfl)) (fun _ _ _ h => h) (Or.inl ⟨by rfl, ?_⟩) ?_ ?_
                  rotate_left
                  · intro w'
                    go_simp
                    with_reducible rfl
                  rotate_left
                  · simp only [Act.put, List.setIfInBounds_toArray, List.set_cons_zero, List.set_cons_succ, i64_w, i32_w]
                    rfl
                  refine take_ (i := 2) (N := some 51) (v := ?_) (a' := ?_) #[true, true, true, true, true, false, false, true, false, false, false, false, false, false] rfl rfl (take_ofW HT_.out HW_.out (by kernel_rfl)) (fun _ _ _ h => h) (Or.inl ⟨by rfl, ?_⟩) hHeld ?_ ?_
                  rotate_left
                  · rintro w' ⟨s0, s1, s2, s3⟩
                    go_simp
                    with_reducible rfl
                  rotate_left
                  · simp only [Act.put, List.setIfInBounds_toArray, List.set_cons_zero, List.set_cons_succ, i64_w, i32_w]
                    rfl
                  refine take_ (i := 5) (N := some 54) (v := ?_) (a' := ?_) #[true, true, true, true, true, true, false, true, false, false, false, false, false, false] rfl rfl (take_ofW HT_.out HW_.out (by kernel_rfl)) (fun _ _ _ h => h) (Or.inl ⟨by rfl, ?_⟩) hHeld ?_ ?_
                  rotate_left
                  · rintro w' ⟨s0, s1, s2, s3⟩
                    go_simp
                    with_reducible rfl
                  rotate_left
                  · simp only [Act.put, List.setIfInBounds_toArray, List.set_cons_zero, List.set_cons_succ, i64_w, i32_w]
                    rfl
                  refine one_ (i := 6) (N := some 55) #[true, true, true, true, true, true, true, true, false, false, false, false, false, false] rfl rfl (one_of HT_.out (by kernel_rfl)) (by decide) (fun K hK => ?_)
                  refine Kd.R_lit_step k33 _ 33 ?hg (N := 55) ?hd (xs := ([(⟨(rd_T33 x11_1 0).f0, (rd_T33 x11_1 0).f1⟩ : S33), (⟨(rd_T33 x11_1 2).f0, (rd_T33 x11_1 2).f1⟩ : S33)] : List (S33))) (inner := [.int .i64 ((rd_T33 x11_1 0).f0), .int .i64 ((rd_T33 x11_1 0).f1), .int .i64 ((rd_T33 x11_1 2).f0), .int .i64 ((rd_T33 x11_1 2).f1)]) (ok := fun _ => True) (okp := fun _ => True) ?hr ?hp (fun _ hk => hk) trivial (Below.refl _ _) (Nat.le_refl _) (by simp) ?_; (case hd => rfl); (case hg => rfl); (case hr => first | (go_simp; done) | (go_simp; rfl)); (case hp => exact (Reps.c2 (show Kd.M k33 _ _ _ (⟨(rd_T33 x11_1 0).f0, (rd_T33 x11_1 0).f1⟩ : S33) [.int .i64 ((rd_T33 x11_1 0).f0), .int .i64 ((rd_T33 x11_1 0).f1)] from (k33_mkM _ _ _ (⟨(rd_T33 x11_1 0).f0, (rd_T33 x11_1 0).f1⟩ : S33) )) (Reps.c2 (show Kd.M k33 _ _ _ (⟨(rd_T33 x11_1 2).f0, (rd_T33 x11_1 2).f1⟩ : S33) [.int .i64 ((rd_T33 x11_1 2).f0), .int .i64 ((rd_T33 x11_1 2).f1)] from (k33_mkM _ _ _ (⟨(rd_T33 x11_1 2).f0, (rd_T33 x11_1 2).f1⟩ : S33) )) (Reps.none _ _))))
                  intro v203 w34 ho35 hb hg_ hnew_
                  have HS0_ := (hb.cell (World.block_lt_of_cell? _ _ (hHeld.1))).trans (hHeld.1)
                  have HS1_ := (hb.cell (World.block_lt_of_cell? _ _ (hHeld.2.1))).trans (hHeld.2.1)
                  have HS2_ := (hb.cell (World.block_lt_of_cell? _ _ (hHeld.2.2.1))).trans (hHeld.2.2.1)
                  have HS3_ := (hb.cell (World.block_lt_of_cell? _ _ (hHeld.2.2.2))).trans (hHeld.2.2.2)
                  clear hg_ hnew_
                  (first | rw [← Ny202.out] at ho35 | (simp only [Int.reduceToNat] at ho35; rw [← Ny202.out] at ho35))
                  have n0_ := Aside0.mk (Kd.R_elder' (by (with_reducible repeat (first | apply Kd.R_alloc | apply Kd.R_drewN | apply Kd.R_drew)); exact HO_11.out) (Kd.R_base ho35) hb)
                  have n1_ := Aside0.mk (Kd.R_lower (Kd.R_new' ho35 (Kd.R_lt (by (with_reducible repeat (first | apply Kd.R_alloc | apply Kd.R_drewN | apply Kd.R_drew)); exact HO_11.out))) (below_size (by repeat (first | (with_reducible first | exact HB.out | apply below_alloc | apply pw_below_drewN | apply below_drew1) | exact HB.out))))
                  have n2_ := Aside0.mk (below_step (by repeat (first | (with_reducible first | exact HB.out | apply below_alloc | apply pw_below_drewN | apply below_drew1) | exact HB.out)) hb)
                  clear HO_11
                  clear HB
                  have HO_11 := n0_
                  have HO204 := n1_
                  have HB := n2_
                  clear n0_ n1_ n2_
                  clear hb ho35
                  obtain ⟨Ao36, co36, eo36⟩ := Kd.R_slice HO204.out
                  (first | subst eo36 | (injection eo36 with f1_ f2_ f3_; have f4_ := f1_.symm; have f5_ := f3_.symm; clear f1_ f2_ f3_; subst f4_; subst f5_))
                  refine hK.out _ _ ⟨HS0_, HS1_, HS2_, HS3_⟩ (fun hHeld => ?_)
                  clear hK K
                  refine norm_ (a' := ?_) ?_ ?_
                  rotate_left
                  · show Act.put _ (some 55) _ = _
                    simp only [Act.put, List.setIfInBounds_toArray, List.set_cons_zero, List.set_cons_succ, i64_w, i32_w]
                    rfl
                  refine one_ (i := 8) (N := some 57) #[true, true, true, true, true, true, true, true, true, false, false, false, false, false] rfl rfl (one_of HT_.out (by kernel_rfl)) (by decide) (fun K hK => ?_)
                  refine goes_ Try.func23 (by kernel_rfl) rfl #[.slice Ao36 y202.length co36, .int .i64 (wrap64 ((wrap64 ((wrap64 (Int.tmod a1 262144)) + 1)) * 4))] (by rfl) rfl rfl (by (try simp only [List.map_toArray, List.map_cons, List.map_nil]); first | done | rfl | (simp only [List.length_drop, List.length_take]; rfl)) ?_
                  with_reducible refine (turn_Of.calls k1 _ _ y202 (wrap64 ((wrap64 ((wrap64 (Int.tmod a1 262144)) + 1)) * 4)) t205 t206 _ ?side1 ?side2 A12.out).mono ?_
                  (case side1 => repeat (first | exact (Kd.R_reads' HO204.out).2.2 | (with_reducible refine Kd.C_alloc ?_ _) | (with_reducible refine Kd.C_drewN ?_ _) | (with_reducible refine Kd.C_drew ?_)))
                  (case side2 => exact (Kd.R_reads' HO204.out).2.1)
                  rintro e w37 ⟨rfl, hb⟩
                  have HS0_ := (hb.cell (World.block_lt_of_cell? _ _ (hHeld.1))).trans (hHeld.1)
                  have HS1_ := (hb.cell (World.block_lt_of_cell? _ _ (hHeld.2.1))).trans (hHeld.2.1)
                  have HS2_ := (hb.cell (World.block_lt_of_cell? _ _ (hHeld.2.2.1))).trans (hHeld.2.2.1)
                  have HS3_ := (hb.cell (World.block_lt_of_cell? _ _ (hHeld.2.2.2))).trans (hHeld.2.2.2)
                  refine ⟨_, rfl, ?_⟩
                  have n0_ := Aside0.mk (Kd.R_below (by (with_reducible repeat (first | apply Kd.R_alloc | apply Kd.R_drewN | apply Kd.R_drew)); exact HO_11.out) hb)
                  have n1_ := Aside0.mk (Kd.R_below (by (with_reducible repeat (first | apply Kd.R_alloc | apply Kd.R_drewN | apply Kd.R_drew)); exact HO204.out) hb)
                  have n2_ := Aside0.mk (below_step (by repeat (first | (with_reducible first | exact HB.out | apply below_alloc | apply pw_below_drewN | apply below_drew1) | exact HB.out)) hb)
                  clear HO_11
                  clear HO204
                  clear HB
                  have HO_11 := n0_
                  have HO204 := n1_
                  have HB := n2_
                  clear n0_ n1_ n2_
                  (try clear hb)
                  (try clear hb2)
                  (try clear hk)
                  (try clear hi)
                  refine hK.out _ _ ⟨HS0_, HS1_, HS2_, HS3_⟩ (fun hHeld => ?_)
                  clear hK K
                  refine norm_ (a' := ?_) ?_ ?_
                  rotate_left
                  · show Act.put _ (some 57) _ = _
                    simp only [Act.put, List.setIfInBounds_toArray, List.set_cons_zero, List.set_cons_succ, i64_w, i32_w]
                    rfl
                  refine pure_ (i := 9) (N := some 48) (v := ?_) (a' := ?_) #[true, true, true, true, true, true, true, true, true, true, false, false, false, false] rfl rfl (any_of HT_.out (by kernel_rfl)) (fun _ _ _ h => h) (Or.inl ⟨by rfl, ?_⟩) ?_ ?_
                  rotate_left
                  · intro w'
                    go_simp
                    with_reducible rfl
                  rotate_left
                  · simp only [Act.put, List.setIfInBounds_toArray, List.set_cons_zero, List.set_cons_succ, i64_w, i32_w]
                    rfl
                  refine pure_ (i := 10) (N := some 58) (v := ?_) (a' := ?_) #[true, true, true, true, true, true, true, true, true, true, true, false, false, false] rfl rfl (any_of HT_.out (by kernel_rfl)) (fun _ _ _ h => h) (Or.inl ⟨by rfl, ?_⟩) ?_ ?_
                  rotate_left
                  · intro w'
                    go_simp
                    with_reducible rfl
                  rotate_left
                  · simp only [Act.put, List.setIfInBounds_toArray, List.set_cons_zero, List.set_cons_succ, i64_w, i32_w]
                    rfl
                  refine pure_ (i := 11) (N := some 59) (v := ?_) (a' := ?_) #[true, true, true, true, true, true, true, true, true, true, true, true, false, false] rfl rfl (any_of HT_.out (by kernel_rfl)) (fun _ _ _ h => h) (Or.inl ⟨by rfl, ?_⟩) ?_ ?_
                  rotate_left
                  · intro w'
                    go_simp
                    with_reducible rfl
                  rotate_left
                  · simp only [Act.put, List.setIfInBounds_toArray, List.set_cons_zero, List.set_cons_succ, i64_w, i32_w]
                    rfl
                  refine pure_ (i := 12) (N := some 15) (v := ?_) (a' := ?_) #[true, true, true, true, true, true, true, true, true, true, true, true, true, false] rfl rfl (any_of HT_.out (by kernel_rfl)) (fun _ _ _ h => h) (Or.inl ⟨by rfl, ?_⟩) ?_ ?_
                  rotate_left
                  · intro w'
                    go_simp
                    with_reducible rfl
                  rotate_left
                  · simp only [Act.put, List.setIfInBounds_toArray, List.set_cons_zero, List.set_cons_succ, i64_w, i32_w]
                    rfl
                  refine pure_ (i := 13) (N := some 16) (v := ?_) (a' := ?_) #[true, true, true, true, true, true, true, true, true, true, true, true, true, true] rfl rfl (any_of HT_.out (by kernel_rfl)) (fun _ _ _ h => h) (Or.inl ⟨by rfl, ?_⟩) ?_ ?_
                  rotate_left
                  · intro w'
                    go_simp
                    with_reducible rfl
                  rotate_left
                  · simp only [Act.put, List.setIfInBounds_toArray, List.set_cons_zero, List.set_cons_succ, i64_w, i32_w]
                    rfl
                  refine done_ (done_of HT_.out (by kernel_rfl)) ?_
                  try go_wp2
                  go_ret
                  exact ⟨by first | rfl | (simp [errW_none, errW_some] <;> rfl) | (simp [*, errW_none, errW_some] <;> rfl), by repeat (first | (with_reducible first | exact HB.out | apply below_alloc | apply pw_below_drewN | apply below_drew1) | exact HB.out)⟩
              · rw [if_neg c14] at H
                have c14b0 : (t199 == 0) = false := beq_eq_false_iff_ne.mpr c14
                have c14b1 : (t199 != 0) = true := bne_iff_ne.mpr c14
                obtain rfl := Option.some.inj H
                obtain ⟨Ao38, co38, eo38⟩ := Kd.R_slice HO_11.out
                subst eo38
                try go_wp2_with (first | ((with_reducible refine gate_callee (f := 23) rfl ?_); refine goesL_ (some 45) rfl rfl Try.func23 (by kernel_rfl) rfl #[.slice Ao38 x11_1.length co38, .int .i64 (wrap64 ((wrap64 ((wrap64 (Int.tmod a1 262144)) + 1)) * 4))] rfl (by (try simp only [List.map_toArray, List.map_cons, List.map_nil]); first | done | rfl | (simp only [List.length_drop, List.length_take]; rfl)) ?_; (with_reducible refine (turn_Of.calls k1 _ _ x11_1 (wrap64 ((wrap64 ((wrap64 (Int.tmod a1 262144)) + 1)) * 4)) t198 t199 _ ?side1 ?side2 A9.out).mono ?_); (case side1 => repeat (first | exact (Kd.R_reads' HO_11.out).2.2 | (with_reducible refine Kd.C_alloc ?_ _) | (with_reducible refine Kd.C_drewN ?_ _) | (with_reducible refine Kd.C_drew ?_))); (case side2 => exact (Kd.R_reads' HO_11.out).2.1); rintro e w39 ⟨rfl, hb⟩; refine ⟨_, rfl, ?_⟩; have n0_ := Aside0.mk (Kd.R_below (by (with_reducible repeat (first | apply Kd.R_alloc | apply Kd.R_drewN | apply Kd.R_drew)); exact HO_11.out) hb); have n1_ := Aside0.mk (below_step (by repeat (first | (with_reducible first | exact HB.out | apply below_alloc | apply pw_below_drewN | apply below_drew1) | exact HB.out)) hb); clear HO_11; clear HB; have HO_11 := n0_; have HB := n1_; clear n0_ n1_; (try clear hb); (try clear hb2); (try clear hk); (try clear hi)))
                have n0_ := Aside0.mk (Kd.R_drew HO_11.out)
                have n1_ := Aside0.mk (below_drew1 HB.out)
                clear HO_11
                clear HB
                have HO_11 := n0_
                have HB := n1_
                clear n0_ n1_
                have p200 : 0 ≤ (0 : Int) := (by omega)
                have q200 : 0 < (x11_1.length : Int) := of_decide_eq_true (by first | (with_reducible assumption) | assumption)
                obtain ⟨ad200, e200, hx200_0, hx200_1⟩ := at_T33 (Kd.R_reads' HO_11.out).2.2 0 p200 q200
                cases e200
                have qi200 : (0 < x11_1.length) = True := eq_true (by omega)
                (try rw [show ((0 : Int)).toNat = 0 from rfl] at hx200_0)
                (try rw [show 0 * 2 = 0 from rfl] at hx200_0)
                (try rw [Addr.add_zero'] at hx200_0)
                (try rw [show ((0 : Int)).toNat = 0 from rfl] at hx200_1)
                (try rw [show 0 * 2 = 0 from rfl] at hx200_1)
                (try rw [Addr.add_zero'] at hx200_1)
                replace p200 := eq_true p200
                replace q200 := eq_true q200
                have p201 : 0 ≤ (2 : Int) := (by omega)
                have q201 : 2 < (x11_1.length : Int) := of_decide_eq_true (by first | (with_reducible assumption) | assumption)
                obtain ⟨ad201, e201, hx201_0, hx201_1⟩ := at_T33 (Kd.R_reads' HO_11.out).2.2 2 p201 q201
                obtain rfl : ad200 = ad201 := (by injection e201)
                (try simp only [show (2 : Int).toNat = 2 from rfl, Nat.reduceMul, Nat.reduceEqDiff, Go.Addr.add, ↓reduceIte] at hx201_0)
                (try simp only [show (2 : Int).toNat = 2 from rfl, Nat.reduceMul, Nat.reduceEqDiff, Go.Addr.add, ↓reduceIte] at hx201_1)
                have qi201 : (2 < x11_1.length) = True := eq_true (by omega)
                (try rw [show ((2 : Int)).toNat = 2 from rfl] at hx201_0)
                (try rw [show 2 * 2 = 4 from rfl] at hx201_0)
                (try rw [show ((2 : Int)).toNat = 2 from rfl] at hx201_1)
                (try rw [show 2 * 2 = 4 from rfl] at hx201_1)
                replace p201 := eq_true p201
                replace q201 := eq_true q201
                refine start_ (n := 14) (S := fun w' => w'.cell? ad200 = some (.int .i64 ((rd_T33 x11_1 0).f0)) ∧ w'.cell? ⟨ad200.block, ad200.off + 1, none⟩ = some (.int .i64 ((rd_T33 x11_1 0).f1)) ∧ w'.cell? ⟨ad200.block, ad200.off + 4, none⟩ = some (.int .i64 ((rd_T33 x11_1 2).f0)) ∧ w'.cell? ⟨ad200.block, ad200.off + 4 + 1, none⟩ = some (.int .i64 ((rd_T33 x11_1 2).f1))) (ds := []) #[false, false, false, false, false, false, false, false, false, false, false, false, false, false] (by kernel_rfl) rfl rfl ⟨hx200_0, hx200_1, hx201_0, hx201_1⟩ (fun hHeld => ?_); refine with_tabW marigraphlaw13_TurnFlat.tab10 marigraphlaw13_TurnFlat.bits10 (fun HT_ HW_ => ?_)
                generalize w39.drew = w40 at HO_11 HB hx200_0 hx200_1 hx201_0 hx201_1 hHeld ⊢
                refine pure_ (i := 0) (N := some 49) (v := ?_) (a' := ?_) #[true, false, false, false, false, false, false, false, false, false, false, false, false, false] rfl rfl (any_of HT_.out (by kernel_rfl)) (fun _ _ _ h => h) (Or.inl ⟨by rfl, ?_⟩) ?_ ?_
                rotate_left
                · intro w'
                  go_simp
                  with_reducible rfl
                rotate_left
                · simp only [Act.put, List.setIfInBounds_toArray, List.set_cons_zero, List.set_cons_succ, i64_w, i32_w]
                  rfl
                refine pure_ (i := 1) (N := some 50) (v := ?_) (a' := ?_) #[true, true, false, false, false, false, false, false, false, false, false, false, false, false] rfl rfl (any_of HT_.out (by kernel_rfl)) (fun _ _ _ h => h) (Or.inl ⟨by rfl, ?_⟩) ?_ ?_
                rotate_left
                · intro w'
                  go_simp
                  with_reducible rfl
                rotate_left
                · simp only [Act.put, List.setIfInBounds_toArray, List.set_cons_zero, List.set_cons_succ, i64_w, i32_w]
                  rfl
                refine pure_ (i := 3) (N := some 52) (v := ?_) (a' := ?_) #[true, true, false, true, false, false, false, false, false, false, false, false, false, false] rfl rfl (any_of HT_.out (by kernel_rfl)) (fun _ _ _ h => h) (Or.inl ⟨by rfl, ?_⟩) ?_ ?_
                rotate_left
                · intro w'
                  go_simp
                  with_reducible rfl
                rotate_left
                · simp only [Act.put, List.setIfInBounds_toArray, List.set_cons_zero, List.set_cons_succ, i64_w, i32_w]
                  rfl
                refine pure_ (i := 4) (N := some 53) (v := ?_) (a' := ?_) #[true, true, false, true, true, false, false, false, false, false, false, false, false, false] rfl rfl (any_of HT_.out (by kernel_rfl)) (fun _ _ _ h => h) (Or.inl ⟨by rfl, ?_⟩) ?_ ?_
                rotate_left
                · intro w'
                  go_simp
                  with_reducible rfl
                rotate_left
                · simp only [Act.put, List.setIfInBounds_toArray, List.set_cons_zero, List.set_cons_succ, i64_w, i32_w]
                  rfl
                refine pure_ (i := 7) (N := some 56) (v := ?_) (a' := ?_) #[true, true, false, true, true, false, false, true, false, false, false, false, false, false] rfl rfl (any_of HT_.out (by kernel_rfl)) (fun _ _ _ h => h) (Or.inl ⟨by rfl, ?_⟩) ?_ ?_
                rotate_left
                · intro w'
                  go_simp
                  with_reducible rfl
                rotate_left
                · simp only [Act.put, List.setIfInBounds_toArray, List.set_cons_zero, List.set_cons_succ, i64_w, i32_w]
                  rfl
                refine take_ (i := 2) (N := some 51) (v := ?_) (a' := ?_) #[true, true, true, true, true, false, false, true, false, false, false, false, false, false] rfl rfl (take_ofW HT_.out HW_.out (by kernel_rfl)) (fun _ _ _ h => h) (Or.inl ⟨by rfl, ?_⟩) hHeld ?_ ?_
                rotate_left
                · rintro w' ⟨s0, s1, s2, s3⟩
                  go_simp
                  with_reducible rfl
                rotate_left
                · simp only [Act.put, List.setIfInBounds_toArray, List.set_cons_zero, List.set_cons_succ, i64_w, i32_w]
                  rfl
                refine take_ (i := 5) (N := some 54) (v := ?_) (a' := ?_) #[true, true, true, true, true, true, false, true, false, false, false, false, false, false] rfl rfl (take_ofW HT_.out HW_.out (by kernel_rfl)) (fun _ _ _ h => h) (Or.inl ⟨by rfl, ?_⟩) hHeld ?_ ?_
                rotate_left
                · rintro w' ⟨s0, s1, s2, s3⟩
                  go_simp
                  with_reducible rfl
                rotate_left
                · simp only [Act.put, List.setIfInBounds_toArray, List.set_cons_zero, List.set_cons_succ, i64_w, i32_w]
                  rfl
                refine one_ (i := 6) (N := some 55) #[true, true, true, true, true, true, true, true, false, false, false, false, false, false] rfl rfl (one_of HT_.out (by kernel_rfl)) (by decide) (fun K hK => ?_)
                refine Kd.R_lit_step k33 _ 33 ?hg (N := 55) ?hd (xs := ([(⟨(rd_T33 x11_1 0).f0, (rd_T33 x11_1 0).f1⟩ : S33), (⟨(rd_T33 x11_1 2).f0, (rd_T33 x11_1 2).f1⟩ : S33)] : List (S33))) (inner := [.int .i64 ((rd_T33 x11_1 0).f0), .int .i64 ((rd_T33 x11_1 0).f1), .int .i64 ((rd_T33 x11_1 2).f0), .int .i64 ((rd_T33 x11_1 2).f1)]) (ok := fun _ => True) (okp := fun _ => True) ?hr ?hp (fun _ hk => hk) trivial (Below.refl _ _) (Nat.le_refl _) (by simp) ?_; (case hd => rfl); (case hg => rfl); (case hr => first | (go_simp; done) | (go_simp; rfl)); (case hp => exact (Reps.c2 (show Kd.M k33 _ _ _ (⟨(rd_T33 x11_1 0).f0, (rd_T33 x11_1 0).f1⟩ : S33) [.int .i64 ((rd_T33 x11_1 0).f0), .int .i64 ((rd_T33 x11_1 0).f1)] from (k33_mkM _ _ _ (⟨(rd_T33 x11_1 0).f0, (rd_T33 x11_1 0).f1⟩ : S33) )) (Reps.c2 (show Kd.M k33 _ _ _ (⟨(rd_T33 x11_1 2).f0, (rd_T33 x11_1 2).f1⟩ : S33) [.int .i64 ((rd_T33 x11_1 2).f0), .int .i64 ((rd_T33 x11_1 2).f1)] from (k33_mkM _ _ _ (⟨(rd_T33 x11_1 2).f0, (rd_T33 x11_1 2).f1⟩ : S33) )) (Reps.none _ _))))
                intro v203 w41 ho42 hb hg_ hnew_
                have HS0_ := (hb.cell (World.block_lt_of_cell? _ _ (hHeld.1))).trans (hHeld.1)
                have HS1_ := (hb.cell (World.block_lt_of_cell? _ _ (hHeld.2.1))).trans (hHeld.2.1)
                have HS2_ := (hb.cell (World.block_lt_of_cell? _ _ (hHeld.2.2.1))).trans (hHeld.2.2.1)
                have HS3_ := (hb.cell (World.block_lt_of_cell? _ _ (hHeld.2.2.2))).trans (hHeld.2.2.2)
                clear hg_ hnew_
                (first | rw [← Ny202.out] at ho42 | (simp only [Int.reduceToNat] at ho42; rw [← Ny202.out] at ho42))
                have n0_ := Aside0.mk (Kd.R_elder' (by (with_reducible repeat (first | apply Kd.R_alloc | apply Kd.R_drewN | apply Kd.R_drew)); exact HO_11.out) (Kd.R_base ho42) hb)
                have n1_ := Aside0.mk (Kd.R_lower (Kd.R_new' ho42 (Kd.R_lt (by (with_reducible repeat (first | apply Kd.R_alloc | apply Kd.R_drewN | apply Kd.R_drew)); exact HO_11.out))) (below_size (by repeat (first | (with_reducible first | exact HB.out | apply below_alloc | apply pw_below_drewN | apply below_drew1) | exact HB.out))))
                have n2_ := Aside0.mk (below_step (by repeat (first | (with_reducible first | exact HB.out | apply below_alloc | apply pw_below_drewN | apply below_drew1) | exact HB.out)) hb)
                clear HO_11
                clear HB
                have HO_11 := n0_
                have HO204 := n1_
                have HB := n2_
                clear n0_ n1_ n2_
                clear hb ho42
                obtain ⟨Ao43, co43, eo43⟩ := Kd.R_slice HO204.out
                (first | subst eo43 | (injection eo43 with f1_ f2_ f3_; have f4_ := f1_.symm; have f5_ := f3_.symm; clear f1_ f2_ f3_; subst f4_; subst f5_))
                refine hK.out _ _ ⟨HS0_, HS1_, HS2_, HS3_⟩ (fun hHeld => ?_)
                clear hK K
                refine norm_ (a' := ?_) ?_ ?_
                rotate_left
                · show Act.put _ (some 55) _ = _
                  simp only [Act.put, List.setIfInBounds_toArray, List.set_cons_zero, List.set_cons_succ, i64_w, i32_w]
                  rfl
                refine one_ (i := 8) (N := some 57) #[true, true, true, true, true, true, true, true, true, false, false, false, false, false] rfl rfl (one_of HT_.out (by kernel_rfl)) (by decide) (fun K hK => ?_)
                refine goes_ Try.func23 (by kernel_rfl) rfl #[.slice Ao43 y202.length co43, .int .i64 (wrap64 ((wrap64 ((wrap64 (Int.tmod a1 262144)) + 1)) * 4))] (by rfl) rfl rfl (by (try simp only [List.map_toArray, List.map_cons, List.map_nil]); first | done | rfl | (simp only [List.length_drop, List.length_take]; rfl)) ?_
                with_reducible refine (turn_Of.calls k1 _ _ y202 (wrap64 ((wrap64 ((wrap64 (Int.tmod a1 262144)) + 1)) * 4)) t205 t206 _ ?side1 ?side2 A12.out).mono ?_
                (case side1 => repeat (first | exact (Kd.R_reads' HO204.out).2.2 | (with_reducible refine Kd.C_alloc ?_ _) | (with_reducible refine Kd.C_drewN ?_ _) | (with_reducible refine Kd.C_drew ?_)))
                (case side2 => exact (Kd.R_reads' HO204.out).2.1)
                rintro e w44 ⟨rfl, hb⟩
                have HS0_ := (hb.cell (World.block_lt_of_cell? _ _ (hHeld.1))).trans (hHeld.1)
                have HS1_ := (hb.cell (World.block_lt_of_cell? _ _ (hHeld.2.1))).trans (hHeld.2.1)
                have HS2_ := (hb.cell (World.block_lt_of_cell? _ _ (hHeld.2.2.1))).trans (hHeld.2.2.1)
                have HS3_ := (hb.cell (World.block_lt_of_cell? _ _ (hHeld.2.2.2))).trans (hHeld.2.2.2)
                refine ⟨_, rfl, ?_⟩
                have n0_ := Aside0.mk (Kd.R_below (by (with_reducible repeat (first | apply Kd.R_alloc | apply Kd.R_drewN | apply Kd.R_drew)); exact HO_11.out) hb)
                have n1_ := Aside0.mk (Kd.R_below (by (with_reducible repeat (first | apply Kd.R_alloc | apply Kd.R_drewN | apply Kd.R_drew)); exact HO204.out) hb)
                have n2_ := Aside0.mk (below_step (by repeat (first | (with_reducible first | exact HB.out | apply below_alloc | apply pw_below_drewN | apply below_drew1) | exact HB.out)) hb)
                clear HO_11
                clear HO204
                clear HB
                have HO_11 := n0_
                have HO204 := n1_
                have HB := n2_
                clear n0_ n1_ n2_
                (try clear hb)
                (try clear hb2)
                (try clear hk)
                (try clear hi)
                refine hK.out _ _ ⟨HS0_, HS1_, HS2_, HS3_⟩ (fun hHeld => ?_)
                clear hK K
                refine norm_ (a' := ?_) ?_ ?_
                rotate_left
                · show Act.put _ (some 57) _ = _
                  simp only [Act.put, List.setIfInBounds_toArray, List.set_cons_zero, List.set_cons_succ, i64_w, i32_w]
                  rfl
                refine pure_ (i := 9) (N := some 48) (v := ?_) (a' := ?_) #[true, true, true, true, true, true, true, true, true, true, false, false, false, false] rfl rfl (any_of HT_.out (by kernel_rfl)) (fun _ _ _ h => h) (Or.inl ⟨by rfl, ?_⟩) ?_ ?_
                rotate_left
                · intro w'
                  go_simp
                  with_reducible rfl
                rotate_left
                · simp only [Act.put, List.setIfInBounds_toArray, List.set_cons_zero, List.set_cons_succ, i64_w, i32_w]
                  rfl
                refine pure_ (i := 10) (N := some 58) (v := ?_) (a' := ?_) #[true, true, true, true, true, true, true, true, true, true, true, false, false, false] rfl rfl (any_of HT_.out (by kernel_rfl)) (fun _ _ _ h => h) (Or.inl ⟨by rfl, ?_⟩) ?_ ?_
                rotate_left
                · intro w'
                  go_simp
                  with_reducible rfl
                rotate_left
                · simp only [Act.put, List.setIfInBounds_toArray, List.set_cons_zero, List.set_cons_succ, i64_w, i32_w]
                  rfl
                refine pure_ (i := 11) (N := some 59) (v := ?_) (a' := ?_) #[true, true, true, true, true, true, true, true, true, true, true, true, false, false] rfl rfl (any_of HT_.out (by kernel_rfl)) (fun _ _ _ h => h) (Or.inl ⟨by rfl, ?_⟩) ?_ ?_
                rotate_left
                · intro w'
                  go_simp
                  with_reducible rfl
                rotate_left
                · simp only [Act.put, List.setIfInBounds_toArray, List.set_cons_zero, List.set_cons_succ, i64_w, i32_w]
                  rfl
                refine pure_ (i := 12) (N := some 15) (v := ?_) (a' := ?_) #[true, true, true, true, true, true, true, true, true, true, true, true, true, false] rfl rfl (any_of HT_.out (by kernel_rfl)) (fun _ _ _ h => h) (Or.inl ⟨by rfl, ?_⟩) ?_ ?_
                rotate_left
                · intro w'
                  go_simp
                  with_reducible rfl
                rotate_left
                · simp only [Act.put, List.setIfInBounds_toArray, List.set_cons_zero, List.set_cons_succ, i64_w, i32_w]
                  rfl
                refine pure_ (i := 13) (N := some 16) (v := ?_) (a' := ?_) #[true, true, true, true, true, true, true, true, true, true, true, true, true, true] rfl rfl (any_of HT_.out (by kernel_rfl)) (fun _ _ _ h => h) (Or.inl ⟨by rfl, ?_⟩) ?_ ?_
                rotate_left
                · intro w'
                  go_simp
                  with_reducible rfl
                rotate_left
                · simp only [Act.put, List.setIfInBounds_toArray, List.set_cons_zero, List.set_cons_succ, i64_w, i32_w]
                  rfl
                refine done_ (done_of HT_.out (by kernel_rfl)) ?_
                try go_wp2
                go_ret
                exact ⟨by first | rfl | (simp [errW_none, errW_some] <;> rfl) | (simp [*, errW_none, errW_some] <;> rfl), by repeat (first | (with_reducible first | exact HB.out | apply below_alloc | apply pw_below_drewN | apply below_drew1) | exact HB.out)⟩
            · replace c13 := Bool.eq_false_iff.mpr c13
              subst c13
              have H1 : (some false) = some r := by rw [if_neg (show ¬ (false = true) by decide)] at H; exact H
              clear H
              have H := H1
              clear H1
              obtain rfl := Option.some.inj H
              obtain ⟨Ao45, co45, eo45⟩ := Kd.R_slice HO_11.out
              subst eo45
              try go_wp2_with (first | ((with_reducible refine gate_callee (f := 23) rfl ?_); refine goesL_ (some 45) rfl rfl Try.func23 (by kernel_rfl) rfl #[.slice Ao45 x11_1.length co45, .int .i64 (wrap64 ((wrap64 ((wrap64 (Int.tmod a1 262144)) + 1)) * 4))] rfl (by (try simp only [List.map_toArray, List.map_cons, List.map_nil]); first | done | rfl | (simp only [List.length_drop, List.length_take]; rfl)) ?_; (with_reducible refine (turn_Of.calls k1 _ _ x11_1 (wrap64 ((wrap64 ((wrap64 (Int.tmod a1 262144)) + 1)) * 4)) t198 t199 _ ?side1 ?side2 A9.out).mono ?_); (case side1 => repeat (first | exact (Kd.R_reads' HO_11.out).2.2 | (with_reducible refine Kd.C_alloc ?_ _) | (with_reducible refine Kd.C_drewN ?_ _) | (with_reducible refine Kd.C_drew ?_))); (case side2 => exact (Kd.R_reads' HO_11.out).2.1); rintro e w46 ⟨rfl, hb⟩; refine ⟨_, rfl, ?_⟩; have n0_ := Aside0.mk (Kd.R_below (by (with_reducible repeat (first | apply Kd.R_alloc | apply Kd.R_drewN | apply Kd.R_drew)); exact HO_11.out) hb); have n1_ := Aside0.mk (below_step (by repeat (first | (with_reducible first | exact HB.out | apply below_alloc | apply pw_below_drewN | apply below_drew1) | exact HB.out)) hb); clear HO_11; clear HB; have HO_11 := n0_; have HB := n1_; clear n0_ n1_; (try clear hb); (try clear hb2); (try clear hk); (try clear hi)))
              have n0_ := Aside0.mk (Kd.R_drew HO_11.out)
              have n1_ := Aside0.mk (below_drew1 HB.out)
              clear HO_11
              clear HB
              have HO_11 := n0_
              have HB := n1_
              clear n0_ n1_
              have p200 : 0 ≤ (0 : Int) := (by omega)
              have q200 : 0 < (x11_1.length : Int) := of_decide_eq_true (by first | (with_reducible assumption) | assumption)
              obtain ⟨ad200, e200, hx200_0, hx200_1⟩ := at_T33 (Kd.R_reads' HO_11.out).2.2 0 p200 q200
              cases e200
              have qi200 : (0 < x11_1.length) = True := eq_true (by omega)
              (try rw [show ((0 : Int)).toNat = 0 from rfl] at hx200_0)
              (try rw [show 0 * 2 = 0 from rfl] at hx200_0)
              (try rw [Addr.add_zero'] at hx200_0)
              (try rw [show ((0 : Int)).toNat = 0 from rfl] at hx200_1)
              (try rw [show 0 * 2 = 0 from rfl] at hx200_1)
              (try rw [Addr.add_zero'] at hx200_1)
              replace p200 := eq_true p200
              replace q200 := eq_true q200
              have p201 : 0 ≤ (2 : Int) := (by omega)
              have q201 : 2 < (x11_1.length : Int) := of_decide_eq_true (by first | (with_reducible assumption) | assumption)
              obtain ⟨ad201, e201, hx201_0, hx201_1⟩ := at_T33 (Kd.R_reads' HO_11.out).2.2 2 p201 q201
              obtain rfl : ad200 = ad201 := (by injection e201)
              (try simp only [show (2 : Int).toNat = 2 from rfl, Nat.reduceMul, Nat.reduceEqDiff, Go.Addr.add, ↓reduceIte] at hx201_0)
              (try simp only [show (2 : Int).toNat = 2 from rfl, Nat.reduceMul, Nat.reduceEqDiff, Go.Addr.add, ↓reduceIte] at hx201_1)
              have qi201 : (2 < x11_1.length) = True := eq_true (by omega)
              (try rw [show ((2 : Int)).toNat = 2 from rfl] at hx201_0)
              (try rw [show 2 * 2 = 4 from rfl] at hx201_0)
              (try rw [show ((2 : Int)).toNat = 2 from rfl] at hx201_1)
              (try rw [show 2 * 2 = 4 from rfl] at hx201_1)
              replace p201 := eq_true p201
              replace q201 := eq_true q201
              refine start_ (n := 14) (S := fun w' => w'.cell? ad200 = some (.int .i64 ((rd_T33 x11_1 0).f0)) ∧ w'.cell? ⟨ad200.block, ad200.off + 1, none⟩ = some (.int .i64 ((rd_T33 x11_1 0).f1)) ∧ w'.cell? ⟨ad200.block, ad200.off + 4, none⟩ = some (.int .i64 ((rd_T33 x11_1 2).f0)) ∧ w'.cell? ⟨ad200.block, ad200.off + 4 + 1, none⟩ = some (.int .i64 ((rd_T33 x11_1 2).f1))) (ds := []) #[false, false, false, false, false, false, false, false, false, false, false, false, false, false] (by kernel_rfl) rfl rfl ⟨hx200_0, hx200_1, hx201_0, hx201_1⟩ (fun hHeld => ?_); refine with_tabW marigraphlaw13_TurnFlat.tab10 marigraphlaw13_TurnFlat.bits10 (fun HT_ HW_ => ?_)
              generalize w46.drew = w47 at HO_11 HB hx200_0 hx200_1 hx201_0 hx201_1 hHeld ⊢
              refine pure_ (i := 0) (N := some 49) (v := ?_) (a' := ?_) #[true, false, false, false, false, false, false, false, false, false, false, false, false, false] rfl rfl (any_of HT_.out (by kernel_rfl)) (fun _ _ _ h => h) (Or.inl ⟨by rfl, ?_⟩) ?_ ?_
              rotate_left
              · intro w'
                go_simp
                with_reducible rfl
              rotate_left
              · simp only [Act.put, List.setIfInBounds_toArray, List.set_cons_zero, List.set_cons_succ, i64_w, i32_w]
                rfl
              refine pure_ (i := 1) (N := some 50) (v := ?_) (a' := ?_) #[true, true, false, false, false, false, false, false, false, false, false, false, false, false] rfl rfl (any_of HT_.out (by kernel_rfl)) (fun _ _ _ h => h) (Or.inl ⟨by rfl, ?_⟩) ?_ ?_
              rotate_left
              · intro w'
                go_simp
                with_reducible rfl
              rotate_left
              · simp only [Act.put, List.setIfInBounds_toArray, List.set_cons_zero, List.set_cons_succ, i64_w, i32_w]
                rfl
              refine pure_ (i := 3) (N := some 52) (v := ?_) (a' := ?_) #[true, true, false, true, false, false, false, false, false, false, false, false, false, false] rfl rfl (any_of HT_.out (by kernel_rfl)) (fun _ _ _ h => h) (Or.inl ⟨by rfl, ?_⟩) ?_ ?_
              rotate_left
              · intro w'
                go_simp
                with_reducible rfl
              rotate_left
              · simp only [Act.put, List.setIfInBounds_toArray, List.set_cons_zero, List.set_cons_succ, i64_w, i32_w]
                rfl
              refine pure_ (i := 4) (N := some 53) (v := ?_) (a' := ?_) #[true, true, false, true, true, false, false, false, false, false, false, false, false, false] rfl rfl (any_of HT_.out (by kernel_rfl)) (fun _ _ _ h => h) (Or.inl ⟨by rfl, ?_⟩) ?_ ?_
              rotate_left
              · intro w'
                go_simp
                with_reducible rfl
              rotate_left
              · simp only [Act.put, List.setIfInBounds_toArray, List.set_cons_zero, List.set_cons_succ, i64_w, i32_w]
                rfl
              refine pure_ (i := 7) (N := some 56) (v := ?_) (a' := ?_) #[true, true, false, true, true, false, false, true, false, false, false, false, false, false] rfl rfl (any_of HT_.out (by kernel_rfl)) (fun _ _ _ h => h) (Or.inl ⟨by rfl, ?_⟩) ?_ ?_
              rotate_left
              · intro w'
                go_simp
                with_reducible rfl
              rotate_left
              · simp only [Act.put, List.setIfInBounds_toArray, List.set_cons_zero, List.set_cons_succ, i64_w, i32_w]
                rfl
              refine take_ (i := 2) (N := some 51) (v := ?_) (a' := ?_) #[true, true, true, true, true, false, false, true, false, false, false, false, false, false] rfl rfl (take_ofW HT_.out HW_.out (by kernel_rfl)) (fun _ _ _ h => h) (Or.inl ⟨by rfl, ?_⟩) hHeld ?_ ?_
              rotate_left
              · rintro w' ⟨s0, s1, s2, s3⟩
                go_simp
                with_reducible rfl
              rotate_left
              · simp only [Act.put, List.setIfInBounds_toArray, List.set_cons_zero, List.set_cons_succ, i64_w, i32_w]
                rfl
              refine take_ (i := 5) (N := some 54) (v := ?_) (a' := ?_) #[true, true, true, true, true, true, false, true, false, false, false, false, false, false] rfl rfl (take_ofW HT_.out HW_.out (by kernel_rfl)) (fun _ _ _ h => h) (Or.inl ⟨by rfl, ?_⟩) hHeld ?_ ?_
              rotate_left
              · rintro w' ⟨s0, s1, s2, s3⟩
                go_simp
                with_reducible rfl
              rotate_left
              · simp only [Act.put, List.setIfInBounds_toArray, List.set_cons_zero, List.set_cons_succ, i64_w, i32_w]
                rfl
              refine one_ (i := 6) (N := some 55) #[true, true, true, true, true, true, true, true, false, false, false, false, false, false] rfl rfl (one_of HT_.out (by kernel_rfl)) (by decide) (fun K hK => ?_)
              refine Kd.R_lit_step k33 _ 33 ?hg (N := 55) ?hd (xs := ([(⟨(rd_T33 x11_1 0).f0, (rd_T33 x11_1 0).f1⟩ : S33), (⟨(rd_T33 x11_1 2).f0, (rd_T33 x11_1 2).f1⟩ : S33)] : List (S33))) (inner := [.int .i64 ((rd_T33 x11_1 0).f0), .int .i64 ((rd_T33 x11_1 0).f1), .int .i64 ((rd_T33 x11_1 2).f0), .int .i64 ((rd_T33 x11_1 2).f1)]) (ok := fun _ => True) (okp := fun _ => True) ?hr ?hp (fun _ hk => hk) trivial (Below.refl _ _) (Nat.le_refl _) (by simp) ?_; (case hd => rfl); (case hg => rfl); (case hr => first | (go_simp; done) | (go_simp; rfl)); (case hp => exact (Reps.c2 (show Kd.M k33 _ _ _ (⟨(rd_T33 x11_1 0).f0, (rd_T33 x11_1 0).f1⟩ : S33) [.int .i64 ((rd_T33 x11_1 0).f0), .int .i64 ((rd_T33 x11_1 0).f1)] from (k33_mkM _ _ _ (⟨(rd_T33 x11_1 0).f0, (rd_T33 x11_1 0).f1⟩ : S33) )) (Reps.c2 (show Kd.M k33 _ _ _ (⟨(rd_T33 x11_1 2).f0, (rd_T33 x11_1 2).f1⟩ : S33) [.int .i64 ((rd_T33 x11_1 2).f0), .int .i64 ((rd_T33 x11_1 2).f1)] from (k33_mkM _ _ _ (⟨(rd_T33 x11_1 2).f0, (rd_T33 x11_1 2).f1⟩ : S33) )) (Reps.none _ _))))
              intro v203 w48 ho49 hb hg_ hnew_
              have HS0_ := (hb.cell (World.block_lt_of_cell? _ _ (hHeld.1))).trans (hHeld.1)
              have HS1_ := (hb.cell (World.block_lt_of_cell? _ _ (hHeld.2.1))).trans (hHeld.2.1)
              have HS2_ := (hb.cell (World.block_lt_of_cell? _ _ (hHeld.2.2.1))).trans (hHeld.2.2.1)
              have HS3_ := (hb.cell (World.block_lt_of_cell? _ _ (hHeld.2.2.2))).trans (hHeld.2.2.2)
              clear hg_ hnew_
              (first | rw [← Ny202.out] at ho49 | (simp only [Int.reduceToNat] at ho49; rw [← Ny202.out] at ho49))
              have n0_ := Aside0.mk (Kd.R_elder' (by (with_reducible repeat (first | apply Kd.R_alloc | apply Kd.R_drewN | apply Kd.R_drew)); exact HO_11.out) (Kd.R_base ho49) hb)
              have n1_ := Aside0.mk (Kd.R_lower (Kd.R_new' ho49 (Kd.R_lt (by (with_reducible repeat (first | apply Kd.R_alloc | apply Kd.R_drewN | apply Kd.R_drew)); exact HO_11.out))) (below_size (by repeat (first | (with_reducible first | exact HB.out | apply below_alloc | apply pw_below_drewN | apply below_drew1) | exact HB.out))))
              have n2_ := Aside0.mk (below_step (by repeat (first | (with_reducible first | exact HB.out | apply below_alloc | apply pw_below_drewN | apply below_drew1) | exact HB.out)) hb)
              clear HO_11
              clear HB
              have HO_11 := n0_
              have HO204 := n1_
              have HB := n2_
              clear n0_ n1_ n2_
              clear hb ho49
              obtain ⟨Ao50, co50, eo50⟩ := Kd.R_slice HO204.out
              (first | subst eo50 | (injection eo50 with f1_ f2_ f3_; have f4_ := f1_.symm; have f5_ := f3_.symm; clear f1_ f2_ f3_; subst f4_; subst f5_))
              refine hK.out _ _ ⟨HS0_, HS1_, HS2_, HS3_⟩ (fun hHeld => ?_)
              clear hK K
              refine norm_ (a' := ?_) ?_ ?_
              rotate_left
              · show Act.put _ (some 55) _ = _
                simp only [Act.put, List.setIfInBounds_toArray, List.set_cons_zero, List.set_cons_succ, i64_w, i32_w]
                rfl
              refine one_ (i := 8) (N := some 57) #[true, true, true, true, true, true, true, true, true, false, false, false, false, false] rfl rfl (one_of HT_.out (by kernel_rfl)) (by decide) (fun K hK => ?_)
              refine goes_ Try.func23 (by kernel_rfl) rfl #[.slice Ao50 y202.length co50, .int .i64 (wrap64 ((wrap64 ((wrap64 (Int.tmod a1 262144)) + 1)) * 4))] (by rfl) rfl rfl (by (try simp only [List.map_toArray, List.map_cons, List.map_nil]); first | done | rfl | (simp only [List.length_drop, List.length_take]; rfl)) ?_
              with_reducible refine (turn_Of.calls k1 _ _ y202 (wrap64 ((wrap64 ((wrap64 (Int.tmod a1 262144)) + 1)) * 4)) t205 t206 _ ?side1 ?side2 A12.out).mono ?_
              (case side1 => repeat (first | exact (Kd.R_reads' HO204.out).2.2 | (with_reducible refine Kd.C_alloc ?_ _) | (with_reducible refine Kd.C_drewN ?_ _) | (with_reducible refine Kd.C_drew ?_)))
              (case side2 => exact (Kd.R_reads' HO204.out).2.1)
              rintro e w51 ⟨rfl, hb⟩
              have HS0_ := (hb.cell (World.block_lt_of_cell? _ _ (hHeld.1))).trans (hHeld.1)
              have HS1_ := (hb.cell (World.block_lt_of_cell? _ _ (hHeld.2.1))).trans (hHeld.2.1)
              have HS2_ := (hb.cell (World.block_lt_of_cell? _ _ (hHeld.2.2.1))).trans (hHeld.2.2.1)
              have HS3_ := (hb.cell (World.block_lt_of_cell? _ _ (hHeld.2.2.2))).trans (hHeld.2.2.2)
              refine ⟨_, rfl, ?_⟩
              have n0_ := Aside0.mk (Kd.R_below (by (with_reducible repeat (first | apply Kd.R_alloc | apply Kd.R_drewN | apply Kd.R_drew)); exact HO_11.out) hb)
              have n1_ := Aside0.mk (Kd.R_below (by (with_reducible repeat (first | apply Kd.R_alloc | apply Kd.R_drewN | apply Kd.R_drew)); exact HO204.out) hb)
              have n2_ := Aside0.mk (below_step (by repeat (first | (with_reducible first | exact HB.out | apply below_alloc | apply pw_below_drewN | apply below_drew1) | exact HB.out)) hb)
              clear HO_11
              clear HO204
              clear HB
              have HO_11 := n0_
              have HO204 := n1_
              have HB := n2_
              clear n0_ n1_ n2_
              (try clear hb)
              (try clear hb2)
              (try clear hk)
              (try clear hi)
              refine hK.out _ _ ⟨HS0_, HS1_, HS2_, HS3_⟩ (fun hHeld => ?_)
              clear hK K
              refine norm_ (a' := ?_) ?_ ?_
              rotate_left
              · show Act.put _ (some 57) _ = _
                simp only [Act.put, List.setIfInBounds_toArray, List.set_cons_zero, List.set_cons_succ, i64_w, i32_w]
                rfl
              refine pure_ (i := 9) (N := some 48) (v := ?_) (a' := ?_) #[true, true, true, true, true, true, true, true, true, true, false, false, false, false] rfl rfl (any_of HT_.out (by kernel_rfl)) (fun _ _ _ h => h) (Or.inl ⟨by rfl, ?_⟩) ?_ ?_
              rotate_left
              · intro w'
                go_simp
                with_reducible rfl
              rotate_left
              · simp only [Act.put, List.setIfInBounds_toArray, List.set_cons_zero, List.set_cons_succ, i64_w, i32_w]
                rfl
              refine pure_ (i := 10) (N := some 58) (v := ?_) (a' := ?_) #[true, true, true, true, true, true, true, true, true, true, true, false, false, false] rfl rfl (any_of HT_.out (by kernel_rfl)) (fun _ _ _ h => h) (Or.inl ⟨by rfl, ?_⟩) ?_ ?_
              rotate_left
              · intro w'
                go_simp
                with_reducible rfl
              rotate_left
              · simp only [Act.put, List.setIfInBounds_toArray, List.set_cons_zero, List.set_cons_succ, i64_w, i32_w]
                rfl
              refine pure_ (i := 11) (N := some 59) (v := ?_) (a' := ?_) #[true, true, true, true, true, true, true, true, true, true, true, true, false, false] rfl rfl (any_of HT_.out (by kernel_rfl)) (fun _ _ _ h => h) (Or.inl ⟨by rfl, ?_⟩) ?_ ?_
              rotate_left
              · intro w'
                go_simp
                with_reducible rfl
              rotate_left
              · simp only [Act.put, List.setIfInBounds_toArray, List.set_cons_zero, List.set_cons_succ, i64_w, i32_w]
                rfl
              refine pure_ (i := 12) (N := some 15) (v := ?_) (a' := ?_) #[true, true, true, true, true, true, true, true, true, true, true, true, true, false] rfl rfl (any_of HT_.out (by kernel_rfl)) (fun _ _ _ h => h) (Or.inl ⟨by rfl, ?_⟩) ?_ ?_
              rotate_left
              · intro w'
                go_simp
                with_reducible rfl
              rotate_left
              · simp only [Act.put, List.setIfInBounds_toArray, List.set_cons_zero, List.set_cons_succ, i64_w, i32_w]
                rfl
              refine pure_ (i := 13) (N := some 16) (v := ?_) (a' := ?_) #[true, true, true, true, true, true, true, true, true, true, true, true, true, true] rfl rfl (any_of HT_.out (by kernel_rfl)) (fun _ _ _ h => h) (Or.inl ⟨by rfl, ?_⟩) ?_ ?_
              rotate_left
              · intro w'
                go_simp
                with_reducible rfl
              rotate_left
              · simp only [Act.put, List.setIfInBounds_toArray, List.set_cons_zero, List.set_cons_succ, i64_w, i32_w]
                rfl
              refine done_ (done_of HT_.out (by kernel_rfl)) ?_
              try go_wp2
              go_ret
              exact ⟨by first | rfl | (simp [errW_none, errW_some] <;> rfl) | (simp [*, errW_none, errW_some] <;> rfl), by repeat (first | (with_reducible first | exact HB.out | apply below_alloc | apply pw_below_drewN | apply below_drew1) | exact HB.out)⟩
          · rw [if_neg c11] at H
            exact absurd H (by simp)
        · rw [if_neg c10] at H
          exact absurd H (by simp)

/-- THE ONE PURE STATEMENT of marigraphlaw13_TurnFlat: yours. -/
def marigraphlaw13_TurnFlat.Pure : Prop := ∀ (a0 : Int) (a1 : Int) (a2 : Int), (Lit.int .i64 a0).wf = true → (Lit.int .u32 a1).wf = true → (Lit.int .i64 a2).wf = true → ∃ k, marigraphlaw13_TurnFlat.f k a0 a1 a2 = some true
theorem marigraphlaw13_TurnFlat.walk (P : marigraphlaw13_TurnFlat.Pure) (a0 : Int) (a1 : Int) (a2 : Int) (w : World) (w0 : (Lit.int .i64 a0).wf = true) (w1 : (Lit.int .u32 a1).wf = true) (w2 : (Lit.int .i64 a2).wf = true) :
    Calls Try.prog 7 #[.int .i64 a0, .int .u32 a1, .int .i64 a2] w fun e w' => e = .returned (.bool true) ∧ Below w.heap.size w w' := by
  obtain ⟨k, h⟩ := P a0 a1 a2 w0 w1 w2
  refine (marigraphlaw13_TurnFlat.calls k a0 a1 a2 true w h).mono ?_
  rintro e w' ⟨rfl, hd⟩
  exact ⟨rfl, hd⟩

end Go.Proofs.Ytjkpdjadbeidnaa.T
