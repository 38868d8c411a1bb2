/- What the law leans on, part 12: X106, XStBlockBack, Brg, X71, X79, Pbc, Pbv, PureBlockBack. -/
import Derived.Test.YthkpnnbjcendcaaQe11
import Derived.Shelf.Abstract
import Derived.Lib.SliceRun
import Derived.Laws.BitsAllLaws
section
-- By xprint.py, out of the translation's own print. Lean checks it.
namespace Go.Proofs.Ythkpnnbjcendcaa.X
open Go.RowKit Go.Proofs.YthkpnnbjcendcaaW.PrintWords Go.Proofs.YthkpnnbjcendcaaW.PrintLast Go.Proofs.YthkpnnbjcendcaaW.PrintMore
attribute [local go_sem] max2_int min2_int max_two min_two max_three min_three max_four min_four   -- for this text's walks alone
set_option linter.unusedVariables false
set_option linter.unusedSimpArgs false

/-! ### marigraphlaw09_BlockBack: function 18 -/
noncomputable def marigraphlaw09_BlockBack.j0 : Nat → List Int → Bool → Bool → Option (Bool)
  | 0, _, _, _ => none
  | k + 1, x1, x5, x47 => if x47 = true then (some false) else (if 0 ≤ (mn (x1.length : Int) 3000) then (if (mn (x1.length : Int) 3000) ≤ (x1.length : Int) then ((block_Take.f (x1.take ((mn (x1.length : Int) 3000) : Int).toNat)).bind fun bt434 => ((block_Put.f bt434.1).bind fun bt438 => (if x5 = true then (if bt434.2 = 0 then (if bt438.2 = 0 then (if (strOfNums bt438.1).toList = (strOfNums (x1.take ((mn (x1.length : Int) 3000) : Int).toNat)).toList then (some true) else (if bt434.2 = 90 then (some ((bt434.1.length : Int) == 0)) else (some false))) else (if bt434.2 = 90 then (some ((bt434.1.length : Int) == 0)) else (some false))) else (if bt434.2 = 90 then (some ((bt434.1.length : Int) == 0)) else (some false))) else (some false)))) else (none)) else (none))
noncomputable def marigraphlaw09_BlockBack.f (k : Nat) (l0 : List (S109)) (l1 : List Int) : Option (Bool) := (marigraphlaw09_shown.f k).bind fun t419 => ((marigraphlaw09_few.f k l0).bind fun t420 => ((block_Put.f t420).bind fun bt423 => ((block_Take.f bt423.1).bind fun bt427 => ((block_Right.f k t420).bind fun t431 => (if ((bt423.2 == 0) != t431) = true then (marigraphlaw09_BlockBack.j0 k l1 t419 true) else (if bt423.2 = 0 then (if bt427.2 = 0 then ((marigraphref09_Same.f k bt427.1 t420).bind fun t432 => (marigraphlaw09_BlockBack.j0 k l1 t419 (!t432))) else (marigraphlaw09_BlockBack.j0 k l1 t419 true)) else (marigraphlaw09_BlockBack.j0 k l1 t419 false)))))))
set_option maxHeartbeats 8000000 in
set_option maxRecDepth 100000 in
theorem marigraphlaw09_BlockBack.calls (k : Nat) (A0 : Option Addr) (c0 : Nat) (l0 : List (S109)) (A1 : Option Addr) (c1 : Nat) (l1 : List Int) (r : Bool) (w : World) (hr0 : Kd.C k109 w A0 l0.length l0) (hc0 : l0.length ≤ c0) (hr1 : Kd.C (Kd.int .u8) w A1 l1.length l1) (hc1 : l1.length ≤ c1) (h : marigraphlaw09_BlockBack.f k l0 l1 = some r) :
    Calls Try.prog 18 #[.slice A0 l0.length c0, .slice A1 l1.length c1] w fun e w' => e = .returned (.bool r) ∧ Below w.heap.size w w' := by
  have HR0 := Aside0.mk hr0
  have HC0 := Aside0.mk hc0
  clear hr0 hc0
  have HR1 := Aside0.mk hr1
  have HC1 := Aside0.mk hc1
  clear hr1 hc1
  have HB := Aside0.mk (Below.refl w.heap.size w)
  have H : ((marigraphlaw09_shown.f k).bind fun t419 => ((marigraphlaw09_few.f k l0).bind fun t420 => ((block_Put.f t420).bind fun bt423 => ((block_Take.f bt423.1).bind fun bt427 => ((block_Right.f k t420).bind fun t431 => (if ((bt423.2 == 0) != t431) = true then (marigraphlaw09_BlockBack.j0 k l1 t419 true) else (if bt423.2 = 0 then (if bt427.2 = 0 then ((marigraphref09_Same.f k bt427.1 t420).bind fun t432 => (marigraphlaw09_BlockBack.j0 k l1 t419 (!t432))) else (marigraphlaw09_BlockBack.j0 k l1 t419 true)) else (marigraphlaw09_BlockBack.j0 k l1 t419 false)))))))) = some r := h
  clear h
  replace H := Option.bind_eq_some_iff.mp H
  obtain ⟨t419, A30, H⟩ := H
  replace H : ((marigraphlaw09_few.f k l0).bind fun t420 => ((block_Put.f t420).bind fun bt423 => ((block_Take.f bt423.1).bind fun bt427 => ((block_Right.f k t420).bind fun t431 => (if ((bt423.2 == 0) != t431) = true then (marigraphlaw09_BlockBack.j0 k l1 t419 true) else (if bt423.2 = 0 then (if bt427.2 = 0 then ((marigraphref09_Same.f k bt427.1 t420).bind fun t432 => (marigraphlaw09_BlockBack.j0 k l1 t419 (!t432))) else (marigraphlaw09_BlockBack.j0 k l1 t419 true)) else (marigraphlaw09_BlockBack.j0 k l1 t419 false))))))) = some r := H
  have A3 := Aside0.mk A30
  clear A30
  replace H := Option.bind_eq_some_iff.mp H
  obtain ⟨t420, A40, H⟩ := H
  replace H : ((block_Put.f t420).bind fun bt423 => ((block_Take.f bt423.1).bind fun bt427 => ((block_Right.f k t420).bind fun t431 => (if ((bt423.2 == 0) != t431) = true then (marigraphlaw09_BlockBack.j0 k l1 t419 true) else (if bt423.2 = 0 then (if bt427.2 = 0 then ((marigraphref09_Same.f k bt427.1 t420).bind fun t432 => (marigraphlaw09_BlockBack.j0 k l1 t419 (!t432))) else (marigraphlaw09_BlockBack.j0 k l1 t419 true)) else (marigraphlaw09_BlockBack.j0 k l1 t419 false)))))) = some r := H
  have A4 := Aside0.mk A40
  clear A40
  replace H := Option.bind_eq_some_iff.mp H
  obtain ⟨⟨t423, t424⟩, A50, H⟩ := H
  replace H : ((block_Take.f t423).bind fun bt427 => ((block_Right.f k t420).bind fun t431 => (if ((t424 == 0) != t431) = true then (marigraphlaw09_BlockBack.j0 k l1 t419 true) else (if t424 = 0 then (if bt427.2 = 0 then ((marigraphref09_Same.f k bt427.1 t420).bind fun t432 => (marigraphlaw09_BlockBack.j0 k l1 t419 (!t432))) else (marigraphlaw09_BlockBack.j0 k l1 t419 true)) else (marigraphlaw09_BlockBack.j0 k l1 t419 false))))) = some r := H
  have A5 := Aside0.mk A50
  clear A50
  replace H := Option.bind_eq_some_iff.mp H
  obtain ⟨⟨t427, t428⟩, A60, H⟩ := H
  replace H : ((block_Right.f k t420).bind fun t431 => (if ((t424 == 0) != t431) = true then (marigraphlaw09_BlockBack.j0 k l1 t419 true) else (if t424 = 0 then (if t428 = 0 then ((marigraphref09_Same.f k t427 t420).bind fun t432 => (marigraphlaw09_BlockBack.j0 k l1 t419 (!t432))) else (marigraphlaw09_BlockBack.j0 k l1 t419 true)) else (marigraphlaw09_BlockBack.j0 k l1 t419 false)))) = some r := H
  have A6 := Aside0.mk A60
  clear A60
  have HC7 := Aside0.mk H
  clear H
  go_enter Try.func18, Try.ntmps18
  go_upto_region 5 with (first | ((with_reducible refine gate_callee (f := 47) rfl ?_); refine goesL_ (some 16) rfl rfl Try.func47 (by kernel_rfl) rfl #[] rfl (by (try simp only [List.map_toArray, List.map_cons, List.map_nil]); first | done | rfl | (simp only [List.length_drop, List.length_take]; rfl)) ?_; (with_reducible refine (marigraphlaw09_shown.calls k  t419 _ A3.out).mono ?_); rintro e w8 ⟨rfl, hb⟩; refine ⟨_, rfl, ?_⟩; have n0_ := Aside0.mk (below_step (by repeat (first | (with_reducible first | exact HB.out | apply below_alloc | apply pw_below_drewN | apply below_drew1) | exact HB.out)) hb); clear HB; have HB := n0_; clear n0_; (try clear hb); (try clear hb2); (try clear hk); (try clear hi)) | ((with_reducible refine gate_callee (f := 44) rfl ?_); refine goesL_ (some 18) rfl rfl Try.func44 (by kernel_rfl) rfl #[.slice A0 l0.length c0] rfl (by (try simp only [List.map_toArray, List.map_cons, List.map_nil]); first | done | rfl | (simp only [List.length_drop, List.length_take]; rfl)) ?_; (with_reducible refine (marigraphlaw09_few.calls k (fun k_ => k_ < w.heap.size) _ _ l0 t420 _ ?side1 A4.out).mono ?_); (case side1 => exact Kd.V_mk HC0.out (Kd.F_below (Kd.C_F k109_heap HR0.out) (by repeat (first | (with_reducible first | exact HB.out | apply below_alloc | apply pw_below_drewN | apply below_drew1) | exact HB.out)))); rintro e w9 ⟨v421, rfl, ho0, hb⟩; refine ⟨_, rfl, ?_⟩; have n0_ := Aside0.mk (Kd.N_lower (Kd.N_mono (ok' := fun k_ => True) ho0 (fun k_ hk_ => trivial)) (below_size (by repeat (first | (with_reducible first | exact HB.out | apply below_alloc | apply pw_below_drewN | apply below_drew1) | exact HB.out)))); have n1_ := Aside0.mk (below_step (by repeat (first | (with_reducible first | exact HB.out | apply below_alloc | apply pw_below_drewN | apply below_drew1) | exact HB.out)) hb); clear HB; have HO422 := n0_; have HB := n1_; clear n0_ n1_; (try clear hb); (try clear hb2); (try clear hk); (try clear hi); (try clear ho0); obtain ⟨Ao10, co10, eo10⟩ := Kd.N_slice HO422.out; subst eo10) | ((with_reducible refine gate_callee (f := 53) rfl ?_); refine goesL_ (some 21) rfl rfl Try.func53 (by kernel_rfl) rfl #[.slice Ao10 t420.length co10] rfl (by (try simp only [List.map_toArray, List.map_cons, List.map_nil]); first | done | rfl | (simp only [List.length_drop, List.length_take]; rfl)) ?_; (with_reducible refine (block_Put.calls _ _ t420 t423 t424 _ ?side1 ?side2 A5.out).mono ?_); (case side1 => repeat (first | exact (Kd.N_reads' HO422.out).2.2 | (with_reducible refine Kd.C_alloc ?_ _) | (with_reducible refine Kd.C_drewN ?_ _) | (with_reducible refine Kd.C_drew ?_))); (case side2 => exact (Kd.N_reads' HO422.out).2.1); rintro e w11 ⟨v425, rfl, ho0, hb⟩; refine ⟨_, rfl, ?_⟩; have n0_ := Aside0.mk (Kd.N_elder' (by (with_reducible repeat (first | apply Kd.N_alloc | apply Kd.N_drewN | apply Kd.N_drew)); exact HO422.out) (Kd.R_base ho0) hb); have n1_ := Aside0.mk (Kd.R_lower ho0 (below_size (by repeat (first | (with_reducible first | exact HB.out | apply below_alloc | apply pw_below_drewN | apply below_drew1) | exact HB.out)))); have n2_ := Aside0.mk (below_step (by repeat (first | (with_reducible first | exact HB.out | apply below_alloc | apply pw_below_drewN | apply below_drew1) | exact HB.out)) hb); clear HO422; clear HB; have HO422 := n0_; have HO426 := n1_; have HB := n2_; clear n0_ n1_ n2_; (try clear hb); (try clear hb2); (try clear hk); (try clear hi); (try clear ho0); obtain ⟨Ao12, co12, eo12⟩ := Kd.R_slice HO426.out; subst eo12) | ((with_reducible refine gate_callee (f := 59) rfl ?_); refine goesL_ (some 26) rfl rfl Try.func59 (by kernel_rfl) rfl #[.slice Ao12 t423.length co12] rfl (by (try simp only [List.map_toArray, List.map_cons, List.map_nil]); first | done | rfl | (simp only [List.length_drop, List.length_take]; rfl)) ?_; (with_reducible refine (block_Take.calls _ _ t423 t427 t428 _ ?side1 ?side2 A6.out).mono ?_); (case side1 => repeat (first | exact (Kd.R_reads' HO426.out).2.2 | (with_reducible refine Kd.C_alloc ?_ _) | (with_reducible refine Kd.C_drewN ?_ _) | (with_reducible refine Kd.C_drew ?_))); (case side2 => exact (Kd.R_reads' HO426.out).2.1); rintro e w13 ⟨v429, rfl, ho0, hb⟩; refine ⟨_, rfl, ?_⟩; have n0_ := Aside0.mk (Kd.N_below (by (with_reducible repeat (first | apply Kd.N_alloc | apply Kd.N_drewN | apply Kd.N_drew)); exact HO422.out) hb); have n1_ := Aside0.mk (Kd.R_below (by (with_reducible repeat (first | apply Kd.R_alloc | apply Kd.R_drewN | apply Kd.R_drew)); exact HO426.out) hb); have n2_ := Aside0.mk (Kd.N_lower (Kd.N_mono (ok' := fun k_ => some k_ ≠ (.slice Ao10 t420.length co10 : Value).ownBlock ∧ some k_ ≠ (.slice Ao12 t423.length co12 : Value).ownBlock) ((Kd.N_bound ho0)) (fun k_ hk_ => ⟨(Kd.fresh' (Kd.N_lt (by (with_reducible repeat (first | apply Kd.N_alloc | apply Kd.N_drewN | apply Kd.N_drew)); exact HO422.out)) k_ hk_.1), (Kd.fresh' (Kd.R_lt (by (with_reducible repeat (first | apply Kd.R_alloc | apply Kd.R_drewN | apply Kd.R_drew)); exact HO426.out)) k_ hk_.1)⟩)) (below_size (by repeat (first | (with_reducible first | exact HB.out | apply below_alloc | apply pw_below_drewN | apply below_drew1) | exact HB.out)))); have n3_ := Aside0.mk (below_step (by repeat (first | (with_reducible first | exact HB.out | apply below_alloc | apply pw_below_drewN | apply below_drew1) | exact HB.out)) hb); clear HO422; clear HO426; clear HB; have HO422 := n0_; have HO426 := n1_; have HO430 := n2_; have HB := n3_; clear n0_ n1_ n2_ n3_; (try clear hb); (try clear hb2); (try clear hk); (try clear hi); (try clear ho0)))
  (try simp only [Act.put, List.setIfInBounds_toArray, List.set_cons_zero, List.set_cons_succ])
  go_cut [47] (fun v47 wc => ∃ (kq : Nat) (x47_6 : Bool), v47 = .bool x47_6 ∧ Aside0 (marigraphlaw09_BlockBack.j0 kq l1 t419 x47_6 = some r) ∧ Aside0 (kq ≤ k) ∧ Aside0 (Below w.heap.size w wc))
  case first =>
    have H := HC7.out
    clear HC7
    replace H := Option.bind_eq_some_iff.mp H
    obtain ⟨t431, A140, H⟩ := H
    replace H : (if ((t424 == 0) != t431) = true then (marigraphlaw09_BlockBack.j0 k l1 t419 true) else (if t424 = 0 then (if t428 = 0 then ((marigraphref09_Same.f k t427 t420).bind fun t432 => (marigraphlaw09_BlockBack.j0 k l1 t419 (!t432))) else (marigraphlaw09_BlockBack.j0 k l1 t419 true)) else (marigraphlaw09_BlockBack.j0 k l1 t419 false))) = some r := H
    have A14 := Aside0.mk A140
    clear A140
    by_cases c15 : ((t424 == 0) != t431) = true
    · rw [if_pos c15] at H
      have c15b0 : ((t424 == 0) != t431) = true := c15
      (try (have c15b1 : decide ((t424 == 0) = t431) = false := by simpa using c15))
      (try (have c15b2 : ((t424 == 0) == t431) = false := by simpa using c15))
      (try (have c15b3 : ¬ ((t424 == 0) = t431) := by simpa using c15))
      clear c15
      (first | rw [c15b0] | (simp only [i64_w, i32_w]; rw [c15b0]) | skip)
      have H' := Aside0.mk H
      clear H
      go_wp2_with (first | ((with_reducible refine gate_callee (f := 55) rfl ?_); refine goesL_ (some 32) rfl rfl Try.func55 (by kernel_rfl) rfl #[.slice Ao10 t420.length co10] rfl (by (try simp only [List.map_toArray, List.map_cons, List.map_nil]); first | done | rfl | (simp only [List.length_drop, List.length_take]; rfl)) ?_; (with_reducible refine (block_Right.calls k _ _ t420 _ _ ?side1 ?side2 A14.out).mono ?_); (case side1 => repeat (first | exact (Kd.N_reads' HO422.out).2.2 | (with_reducible refine Kd.C_alloc ?_ _) | (with_reducible refine Kd.C_drewN ?_ _) | (with_reducible refine Kd.C_drew ?_))); (case side2 => exact (Kd.N_reads' HO422.out).2.1); rintro e w16 ⟨rfl, hb⟩; refine ⟨_, rfl, ?_⟩; have n0_ := Aside0.mk (Kd.N_below (by (with_reducible repeat (first | apply Kd.N_alloc | apply Kd.N_drewN | apply Kd.N_drew)); exact HO422.out) hb); have n1_ := Aside0.mk (Kd.R_below (by (with_reducible repeat (first | apply Kd.R_alloc | apply Kd.R_drewN | apply Kd.R_drew)); exact HO426.out) hb); have n2_ := Aside0.mk (Kd.N_below (by (with_reducible repeat (first | apply Kd.N_alloc | apply Kd.N_drewN | apply Kd.N_drew)); exact HO430.out) hb); have n3_ := Aside0.mk (below_step (by repeat (first | (with_reducible first | exact HB.out | apply below_alloc | apply pw_below_drewN | apply below_drew1) | exact HB.out)) hb); clear HO422; clear HO426; clear HO430; clear HB; have HO422 := n0_; have HO426 := n1_; have HO430 := n2_; have HB := n3_; clear n0_ n1_ n2_ n3_; (try clear hb); (try clear hb2); (try clear hk); (try clear hi)))
      go_meet
      case rel => exact ⟨_, (true), (by first | rfl | (simp; done) | (simp [*]; done) | (simp <;> grind)), H', ⟨by first | omega | exact Nat.le_refl _⟩, ⟨by repeat (first | (with_reducible first | exact HB.out | apply below_alloc | apply pw_below_drewN | apply below_drew1) | exact HB.out)⟩⟩
    · rw [if_neg c15] at H
      have c15b0 : ((t424 == 0) != t431) = false := by simpa using c15
      (try (have c15b1 : decide ((t424 == 0) = t431) = true := by simpa using c15))
      (try (have c15b2 : ((t424 == 0) == t431) = true := by simpa using c15))
      clear c15
      (first | rw [c15b0] | (simp only [i64_w, i32_w]; rw [c15b0]) | skip)
      by_cases c17 : t424 = 0
      · rw [if_pos c17] at H
        have c17b0 : (t424 == 0) = true := beq_iff_eq.mpr c17
        have c17b1 : (t424 != 0) = false := bne_eq_false_iff_eq.mpr c17
        clear c17
        have ht_ : t431 = true := by revert c15b0; rw [c17b0]; cases t431 <;> decide
        clear c15b0 c15b1 c15b2
        subst ht_
        by_cases c18 : t428 = 0
        · rw [if_pos c18] at H
          have c18b0 : (t428 == 0) = true := beq_iff_eq.mpr c18
          have c18b1 : (t428 != 0) = false := bne_eq_false_iff_eq.mpr c18
          clear c18
          replace H := Option.bind_eq_some_iff.mp H
          obtain ⟨t432, A190, H⟩ := H
          replace H : (marigraphlaw09_BlockBack.j0 k l1 t419 (!t432)) = some r := H
          have A19 := Aside0.mk A190
          clear A190
          have H' := Aside0.mk H
          clear H
          go_wp2_with (first | ((with_reducible refine gate_callee (f := 55) rfl ?_); refine goesL_ (some 32) rfl rfl Try.func55 (by kernel_rfl) rfl #[.slice Ao10 t420.length co10] rfl (by (try simp only [List.map_toArray, List.map_cons, List.map_nil]); first | done | rfl | (simp only [List.length_drop, List.length_take]; rfl)) ?_; (with_reducible refine (block_Right.calls k _ _ t420 _ _ ?side1 ?side2 A14.out).mono ?_); (case side1 => repeat (first | exact (Kd.N_reads' HO422.out).2.2 | (with_reducible refine Kd.C_alloc ?_ _) | (with_reducible refine Kd.C_drewN ?_ _) | (with_reducible refine Kd.C_drew ?_))); (case side2 => exact (Kd.N_reads' HO422.out).2.1); rintro e w20 ⟨rfl, hb⟩; refine ⟨_, rfl, ?_⟩; have n0_ := Aside0.mk (Kd.N_below (by (with_reducible repeat (first | apply Kd.N_alloc | apply Kd.N_drewN | apply Kd.N_drew)); exact HO422.out) hb); have n1_ := Aside0.mk (Kd.R_below (by (with_reducible repeat (first | apply Kd.R_alloc | apply Kd.R_drewN | apply Kd.R_drew)); exact HO426.out) hb); have n2_ := Aside0.mk (Kd.N_below (by (with_reducible repeat (first | apply Kd.N_alloc | apply Kd.N_drewN | apply Kd.N_drew)); exact HO430.out) hb); have n3_ := Aside0.mk (below_step (by repeat (first | (with_reducible first | exact HB.out | apply below_alloc | apply pw_below_drewN | apply below_drew1) | exact HB.out)) hb); clear HO422; clear HO426; clear HO430; clear HB; have HO422 := n0_; have HO426 := n1_; have HO430 := n2_; have HB := n3_; clear n0_ n1_ n2_ n3_; (try clear hb); (try clear hb2); (try clear hk); (try clear hi); obtain ⟨Ao21, co21, eo21⟩ := Kd.N_slice HO430.out; subst eo21) | (go_at_call 50; (with_reducible refine (marigraphref09_Same.calls k _ _ t427 _ _ t420 t432 _ ?side1 ?side2 ?side3 ?side4 A19.out).mono ?_); (case side1 => repeat (first | exact (Kd.N_reads' HO430.out).2.2 | (with_reducible refine Kd.C_alloc ?_ _) | (with_reducible refine Kd.C_drewN ?_ _) | (with_reducible refine Kd.C_drew ?_))); (case side2 => exact (Kd.N_reads' HO430.out).2.1); (case side3 => repeat (first | exact (Kd.N_reads' HO422.out).2.2 | (with_reducible refine Kd.C_alloc ?_ _) | (with_reducible refine Kd.C_drewN ?_ _) | (with_reducible refine Kd.C_drew ?_))); (case side4 => exact (Kd.N_reads' HO422.out).2.1); rintro e w' ⟨rfl, ⟨nd, rfl⟩⟩))
          go_meet
          case rel => exact ⟨_, (!t432), (by first | rfl | (simp; done) | (simp [*]; done) | (simp <;> grind)), H', ⟨by first | omega | exact Nat.le_refl _⟩, ⟨by repeat (first | (with_reducible first | exact HB.out | apply below_alloc | apply pw_below_drewN | apply below_drew1) | exact HB.out)⟩⟩
        · rw [if_neg c18] at H
          have c18b0 : (t428 == 0) = false := beq_eq_false_iff_ne.mpr c18
          have c18b1 : (t428 != 0) = true := bne_iff_ne.mpr c18
          have H' := Aside0.mk H
          clear H
          go_wp2_with (first | ((with_reducible refine gate_callee (f := 55) rfl ?_); refine goesL_ (some 32) rfl rfl Try.func55 (by kernel_rfl) rfl #[.slice Ao10 t420.length co10] rfl (by (try simp only [List.map_toArray, List.map_cons, List.map_nil]); first | done | rfl | (simp only [List.length_drop, List.length_take]; rfl)) ?_; (with_reducible refine (block_Right.calls k _ _ t420 _ _ ?side1 ?side2 A14.out).mono ?_); (case side1 => repeat (first | exact (Kd.N_reads' HO422.out).2.2 | (with_reducible refine Kd.C_alloc ?_ _) | (with_reducible refine Kd.C_drewN ?_ _) | (with_reducible refine Kd.C_drew ?_))); (case side2 => exact (Kd.N_reads' HO422.out).2.1); rintro e w22 ⟨rfl, hb⟩; refine ⟨_, rfl, ?_⟩; have n0_ := Aside0.mk (Kd.N_below (by (with_reducible repeat (first | apply Kd.N_alloc | apply Kd.N_drewN | apply Kd.N_drew)); exact HO422.out) hb); have n1_ := Aside0.mk (Kd.R_below (by (with_reducible repeat (first | apply Kd.R_alloc | apply Kd.R_drewN | apply Kd.R_drew)); exact HO426.out) hb); have n2_ := Aside0.mk (Kd.N_below (by (with_reducible repeat (first | apply Kd.N_alloc | apply Kd.N_drewN | apply Kd.N_drew)); exact HO430.out) hb); have n3_ := Aside0.mk (below_step (by repeat (first | (with_reducible first | exact HB.out | apply below_alloc | apply pw_below_drewN | apply below_drew1) | exact HB.out)) hb); clear HO422; clear HO426; clear HO430; clear HB; have HO422 := n0_; have HO426 := n1_; have HO430 := n2_; have HB := n3_; clear n0_ n1_ n2_ n3_; (try clear hb); (try clear hb2); (try clear hk); (try clear hi)))
          go_meet
          case rel => exact ⟨_, (true), (by first | rfl | (simp; done) | (simp [*]; done) | (simp <;> grind)), H', ⟨by first | omega | exact Nat.le_refl _⟩, ⟨by repeat (first | (with_reducible first | exact HB.out | apply below_alloc | apply pw_below_drewN | apply below_drew1) | exact HB.out)⟩⟩
      · rw [if_neg c17] at H
        have c17b0 : (t424 == 0) = false := beq_eq_false_iff_ne.mpr c17
        have c17b1 : (t424 != 0) = true := bne_iff_ne.mpr c17
        have ht_ : t431 = false := by revert c15b0; rw [c17b0]; cases t431 <;> decide
        clear c15b0 c15b1 c15b2
        subst ht_
        have H' := Aside0.mk H
        clear H
        go_wp2_with (first | ((with_reducible refine gate_callee (f := 55) rfl ?_); refine goesL_ (some 32) rfl rfl Try.func55 (by kernel_rfl) rfl #[.slice Ao10 t420.length co10] rfl (by (try simp only [List.map_toArray, List.map_cons, List.map_nil]); first | done | rfl | (simp only [List.length_drop, List.length_take]; rfl)) ?_; (with_reducible refine (block_Right.calls k _ _ t420 _ _ ?side1 ?side2 A14.out).mono ?_); (case side1 => repeat (first | exact (Kd.N_reads' HO422.out).2.2 | (with_reducible refine Kd.C_alloc ?_ _) | (with_reducible refine Kd.C_drewN ?_ _) | (with_reducible refine Kd.C_drew ?_))); (case side2 => exact (Kd.N_reads' HO422.out).2.1); rintro e w23 ⟨rfl, hb⟩; refine ⟨_, rfl, ?_⟩; have n0_ := Aside0.mk (Kd.N_below (by (with_reducible repeat (first | apply Kd.N_alloc | apply Kd.N_drewN | apply Kd.N_drew)); exact HO422.out) hb); have n1_ := Aside0.mk (Kd.R_below (by (with_reducible repeat (first | apply Kd.R_alloc | apply Kd.R_drewN | apply Kd.R_drew)); exact HO426.out) hb); have n2_ := Aside0.mk (Kd.N_below (by (with_reducible repeat (first | apply Kd.N_alloc | apply Kd.N_drewN | apply Kd.N_drew)); exact HO430.out) hb); have n3_ := Aside0.mk (below_step (by repeat (first | (with_reducible first | exact HB.out | apply below_alloc | apply pw_below_drewN | apply below_drew1) | exact HB.out)) hb); clear HO422; clear HO426; clear HO430; clear HB; have HO422 := n0_; have HO426 := n1_; have HO430 := n2_; have HB := n3_; clear n0_ n1_ n2_ n3_; (try clear hb); (try clear hb2); (try clear hk); (try clear hi)))
        go_meet
        case rel => exact ⟨_, (false), (by first | rfl | (simp; done) | (simp [*]; done) | (simp <;> grind)), H', ⟨by first | omega | exact Nat.le_refl _⟩, ⟨by repeat (first | (with_reducible first | exact HB.out | apply below_alloc | apply pw_below_drewN | apply below_drew1) | exact HB.out)⟩⟩
  case rest =>
    clear HC7
    try clear c1
    try clear p2
    try clear c4
    try clear c5
    try clear c15
    try clear c15b0
    try clear c15b1
    try clear c15b2
    try clear c17
    try clear c17b0
    try clear c17b1
    try clear c18
    try clear c18b0
    try clear c18b1
    obtain ⟨kq, x47_6, rfl, HA, HJ6, HB⟩ := hcut
    cases kq with
    | zero => exact absurd HA.out (by simp [marigraphlaw09_BlockBack.j0])
    | succ kj6 =>
      have H := HA.out
      clear HA
      simp only [marigraphlaw09_BlockBack.j0] at H
      by_cases c24 : x47_6 = true
      · subst c24
        have H1 : (some false) = some r := by rw [if_pos rfl] at H; exact H
        clear H
        have H := H1
        clear H1
        obtain rfl := Option.some.inj H
        go_wp2
        go_ret
        exact ⟨by first | rfl | (simp [errW_none, errW_some] <;> rfl) | (simp [*, errW_none, errW_some] <;> rfl), by repeat (first | (with_reducible first | exact HB.out | apply below_alloc | apply pw_below_drewN | apply below_drew1) | exact HB.out)⟩
      · replace c24 := Bool.eq_false_iff.mpr c24
        subst c24
        have H1 : (if 0 ≤ (mn (l1.length : Int) 3000) then (if (mn (l1.length : Int) 3000) ≤ (l1.length : Int) then ((block_Take.f (l1.take ((mn (l1.length : Int) 3000) : Int).toNat)).bind fun bt434 => ((block_Put.f bt434.1).bind fun bt438 => (if t419 = true then (if bt434.2 = 0 then (if bt438.2 = 0 then (if (strOfNums bt438.1).toList = (strOfNums (l1.take ((mn (l1.length : Int) 3000) : Int).toNat)).toList then (some true) else (if bt434.2 = 90 then (some ((bt434.1.length : Int) == 0)) else (some false))) else (if bt434.2 = 90 then (some ((bt434.1.length : Int) == 0)) else (some false))) else (if bt434.2 = 90 then (some ((bt434.1.length : Int) == 0)) else (some false))) else (some false)))) else (none)) else (none)) = some r := by rw [if_neg (show ¬ (false = true) by decide)] at H; exact H
        clear H
        have H := H1
        clear H1
        obtain ⟨ji25, hji25⟩ : ∃ j_ : Int, (mn (l1.length : Int) 3000) = j_ := ⟨_, rfl⟩
        replace H : (if 0 ≤ (ji25) then (if (ji25) ≤ (l1.length : Int) then ((block_Take.f (l1.take ((ji25) : Int).toNat)).bind fun bt434 => ((block_Put.f bt434.1).bind fun bt438 => (if t419 = true then (if bt434.2 = 0 then (if bt438.2 = 0 then (if (strOfNums bt438.1).toList = (strOfNums (l1.take ((ji25) : Int).toNat)).toList then (some true) else (if bt434.2 = 90 then (some ((bt434.1.length : Int) == 0)) else (some false))) else (if bt434.2 = 90 then (some ((bt434.1.length : Int) == 0)) else (some false))) else (if bt434.2 = 90 then (some ((bt434.1.length : Int) == 0)) else (some false))) else (some false)))) else (none)) else (none)) = some r := by first | (rw [hji25] at H; exact H) | (simp only [hji25] at H ⊢; exact H)
        have hji25_ : (if 3000 < (l1.length : Int) then 3000 else (l1.length : Int)) = ji25 := hji25
        by_cases c26 : 0 ≤ (ji25)
        · rw [if_pos c26] at H
          have c26b0 := eq_true c26
          have c26b1 : decide (0 ≤ (ji25)) = true := decide_eq_true c26
          clear c26
          by_cases c27 : (ji25) ≤ (l1.length : Int)
          · rw [if_pos c27] at H
            have c27b0 := eq_true c27
            have c27b1 : decide ((ji25) ≤ (l1.length : Int)) = true := decide_eq_true c27
            clear c27
            replace H := Option.bind_eq_some_iff.mp H
            obtain ⟨⟨t434, t435⟩, A280, H⟩ := H
            replace H : ((block_Put.f t434).bind fun bt438 => (if t419 = true then (if t435 = 0 then (if bt438.2 = 0 then (if (strOfNums bt438.1).toList = (strOfNums (l1.take ((ji25) : Int).toNat)).toList then (some true) else (if t435 = 90 then (some ((t434.length : Int) == 0)) else (some false))) else (if t435 = 90 then (some ((t434.length : Int) == 0)) else (some false))) else (if t435 = 90 then (some ((t434.length : Int) == 0)) else (some false))) else (some false))) = some r := H
            have A28 := Aside0.mk A280
            clear A280
            replace H := Option.bind_eq_some_iff.mp H
            obtain ⟨⟨t438, t439⟩, A290, H⟩ := H
            replace H : (if t419 = true then (if t435 = 0 then (if t439 = 0 then (if (strOfNums t438).toList = (strOfNums (l1.take ((ji25) : Int).toNat)).toList then (some true) else (if t435 = 90 then (some ((t434.length : Int) == 0)) else (some false))) else (if t435 = 90 then (some ((t434.length : Int) == 0)) else (some false))) else (if t435 = 90 then (some ((t434.length : Int) == 0)) else (some false))) else (some false)) = some r := H
            have A29 := Aside0.mk A290
            clear A290
            by_cases c30 : t419 = true
            · subst c30
              have H1 : (if t435 = 0 then (if t439 = 0 then (if (strOfNums t438).toList = (strOfNums (l1.take ((ji25) : Int).toNat)).toList then (some true) else (if t435 = 90 then (some ((t434.length : Int) == 0)) else (some false))) else (if t435 = 90 then (some ((t434.length : Int) == 0)) else (some false))) else (if t435 = 90 then (some ((t434.length : Int) == 0)) else (some false))) = some r := by rw [if_pos rfl] at H; exact H
              clear H
              have H := H1
              clear H1
              by_cases c31 : t435 = 0
              · rw [if_pos c31] at H
                have c31b0 : (t435 == 0) = true := beq_iff_eq.mpr c31
                have c31b1 : (t435 != 0) = false := bne_eq_false_iff_eq.mpr c31
                clear c31
                by_cases c32 : t439 = 0
                · rw [if_pos c32] at H
                  have c32b0 : (t439 == 0) = true := beq_iff_eq.mpr c32
                  have c32b1 : (t439 != 0) = false := bne_eq_false_iff_eq.mpr c32
                  clear c32
                  by_cases c33 : (strOfNums t438).toList = (strOfNums (l1.take ((ji25) : Int).toNat)).toList
                  · rw [if_pos c33] at H
                    have c33b0 : ((strOfNums t438).toList == (strOfNums (l1.take ((ji25) : Int).toNat)).toList) = true := beq_iff_eq.mpr c33
                    have c33b1 : ((strOfNums t438).toList != (strOfNums (l1.take ((ji25) : Int).toNat)).toList) = false := bne_eq_false_iff_eq.mpr c33
                    clear c33
                    obtain rfl := Option.some.inj H
                    obtain ⟨i034, hi034, _, hsz34, _⟩ := info_parts info5
                    obtain ⟨hcut34, hA34, hC34⟩ := print_take_of (P := Try.prog) (Value.int .u8) 0 24 5 .i64 Try.underlying24 hi034 hsz34 A1 c1 l1 (ji25) (of_decide_eq_true (by first | (with_reducible assumption) | assumption)) (of_decide_eq_true (by first | (with_reducible assumption) | assumption)) HC1.out
                    have HR433 := Aside0.mk (Kd.C_of_reads (h1 := fun _ => rfl) (hA34 _ (Kd.reads_of_C HR1.out)))
                    have HC433 := Aside0.mk hC34
                    clear hA34 hC34 hi034 hsz34
                    go_wp2_with (first | ((with_reducible refine gate_callee (f := 59) rfl ?_); refine goesL_ (some 55) rfl rfl Try.func59 (by kernel_rfl) rfl #[.slice A1 (l1.take ((ji25) : Int).toNat).length c1] rfl (by (try simp only [List.map_toArray, List.map_cons, List.map_nil]); first | done | (rw [show (l1.take ((ji25) : Int).toNat).length = (ji25).toNat from (by rw [List.length_take]; have h_ : ((ji25) : Int) ≤ (l1.length : Int) := of_decide_eq_true (by first | (with_reducible assumption) | assumption); omega)] <;> rfl) | (simp only [hji25]; rfl) | rfl | (simp only [List.length_drop, List.length_take]; rfl)) ?_; (with_reducible refine (block_Take.calls _ _ (l1.take ((ji25) : Int).toNat) t434 t435 _ ?side1 ?side2 A28.out).mono ?_); (case side1 => repeat (first | exact (Kd.C_below HR433.out HB.out) | (with_reducible refine Kd.C_alloc ?_ _) | (with_reducible refine Kd.C_drewN ?_ _) | (with_reducible refine Kd.C_drew ?_))); (case side2 => exact HC433.out); rintro e w35 ⟨v436, rfl, ho0, hb⟩; refine ⟨_, rfl, ?_⟩; have n0_ := Aside0.mk (Kd.N_lower (Kd.N_mono (ok' := fun k_ => True) ((Kd.N_bound ho0)) (fun k_ hk_ => trivial)) (below_size (by repeat (first | (with_reducible first | exact HB.out | apply below_alloc | apply pw_below_drewN | apply below_drew1) | exact HB.out)))); have n1_ := Aside0.mk (below_step (by repeat (first | (with_reducible first | exact HB.out | apply below_alloc | apply pw_below_drewN | apply below_drew1) | exact HB.out)) hb); clear HB; have HO437 := n0_; have HB := n1_; clear n0_ n1_; (try clear hb); (try clear hb2); (try clear hk); (try clear hi); (try clear ho0); obtain ⟨Ao36, co36, eo36⟩ := Kd.N_slice HO437.out; subst eo36) | ((with_reducible refine gate_callee (f := 53) rfl ?_); refine goesL_ (some 60) rfl rfl Try.func53 (by kernel_rfl) rfl #[.slice Ao36 t434.length co36] rfl (by (try simp only [List.map_toArray, List.map_cons, List.map_nil]); first | done | rfl | (simp only [List.length_drop, List.length_take]; rfl)) ?_; (with_reducible refine (block_Put.calls _ _ t434 t438 t439 _ ?side1 ?side2 A29.out).mono ?_); (case side1 => repeat (first | exact (Kd.N_reads' HO437.out).2.2 | (with_reducible refine Kd.C_alloc ?_ _) | (with_reducible refine Kd.C_drewN ?_ _) | (with_reducible refine Kd.C_drew ?_))); (case side2 => exact (Kd.N_reads' HO437.out).2.1); rintro e w37 ⟨v440, rfl, ho0, hb⟩; refine ⟨_, rfl, ?_⟩; have n0_ := Aside0.mk (Kd.N_elder' (by (with_reducible repeat (first | apply Kd.N_alloc | apply Kd.N_drewN | apply Kd.N_drew)); exact HO437.out) (Kd.R_base ho0) hb); have n1_ := Aside0.mk (Kd.R_lower ho0 (below_size (by repeat (first | (with_reducible first | exact HB.out | apply below_alloc | apply pw_below_drewN | apply below_drew1) | exact HB.out)))); have n2_ := Aside0.mk (below_step (by repeat (first | (with_reducible first | exact HB.out | apply below_alloc | apply pw_below_drewN | apply below_drew1) | exact HB.out)) hb); clear HO437; clear HB; have HO437 := n0_; have HO441 := n1_; have HB := n2_; clear n0_ n1_ n2_; (try clear hb); (try clear hb2); (try clear hk); (try clear hi); (try clear ho0); have hcv38 := own_string (P := Try.prog) Try.underlying24 Try.underlying5 Try.underlying9 (Kd.own_of_R HO441.out); have hcv39 := Kd.C_string (P := Try.prog) (A := A1) (c := c1) Try.underlying24 Try.underlying5 Try.underlying9 (Kd.C_below HR433.out HB.out); rw [show (l1.take ((ji25) : Int).toNat).length = (ji25).toNat from (by rw [List.length_take]; have h_ : ((ji25) : Int) ≤ (l1.length : Int) := of_decide_eq_true (by first | (with_reducible assumption) | assumption); omega)] at hcv39))
                    go_ret
                    exact ⟨by first | rfl | (simp [errW_none, errW_some] <;> rfl) | (simp only [← hji25]; first | rfl | (simp [errW_none, errW_some] <;> rfl)) | (simp [*, errW_none, errW_some] <;> rfl), by repeat (first | (with_reducible first | exact HB.out | apply below_alloc | apply pw_below_drewN | apply below_drew1) | exact HB.out)⟩
                  · rw [if_neg c33] at H
                    have c33b0 : ((strOfNums t438).toList == (strOfNums (l1.take ((ji25) : Int).toNat)).toList) = false := beq_eq_false_iff_ne.mpr c33
                    have c33b1 : ((strOfNums t438).toList != (strOfNums (l1.take ((ji25) : Int).toNat)).toList) = true := bne_iff_ne.mpr c33
                    by_cases c40 : t435 = 90
                    · rw [if_pos c40] at H
                      have c40b0 : (t435 == 90) = true := beq_iff_eq.mpr c40
                      have c40b1 : (t435 != 90) = false := bne_eq_false_iff_eq.mpr c40
                      clear c40
                      obtain rfl := Option.some.inj H
                      obtain ⟨i041, hi041, _, hsz41, _⟩ := info_parts info5
                      obtain ⟨hcut41, hA41, hC41⟩ := print_take_of (P := Try.prog) (Value.int .u8) 0 24 5 .i64 Try.underlying24 hi041 hsz41 A1 c1 l1 (ji25) (of_decide_eq_true (by first | (with_reducible assumption) | assumption)) (of_decide_eq_true (by first | (with_reducible assumption) | assumption)) HC1.out
                      have HR433 := Aside0.mk (Kd.C_of_reads (h1 := fun _ => rfl) (hA41 _ (Kd.reads_of_C HR1.out)))
                      have HC433 := Aside0.mk hC41
                      clear hA41 hC41 hi041 hsz41
                      go_wp2_with (first | ((with_reducible refine gate_callee (f := 59) rfl ?_); refine goesL_ (some 55) rfl rfl Try.func59 (by kernel_rfl) rfl #[.slice A1 (l1.take ((ji25) : Int).toNat).length c1] rfl (by (try simp only [List.map_toArray, List.map_cons, List.map_nil]); first | done | (rw [show (l1.take ((ji25) : Int).toNat).length = (ji25).toNat from (by rw [List.length_take]; have h_ : ((ji25) : Int) ≤ (l1.length : Int) := of_decide_eq_true (by first | (with_reducible assumption) | assumption); omega)] <;> rfl) | (simp only [hji25]; rfl) | rfl | (simp only [List.length_drop, List.length_take]; rfl)) ?_; (with_reducible refine (block_Take.calls _ _ (l1.take ((ji25) : Int).toNat) t434 t435 _ ?side1 ?side2 A28.out).mono ?_); (case side1 => repeat (first | exact (Kd.C_below HR433.out HB.out) | (with_reducible refine Kd.C_alloc ?_ _) | (with_reducible refine Kd.C_drewN ?_ _) | (with_reducible refine Kd.C_drew ?_))); (case side2 => exact HC433.out); rintro e w42 ⟨v436, rfl, ho0, hb⟩; refine ⟨_, rfl, ?_⟩; have n0_ := Aside0.mk (Kd.N_lower (Kd.N_mono (ok' := fun k_ => True) ((Kd.N_bound ho0)) (fun k_ hk_ => trivial)) (below_size (by repeat (first | (with_reducible first | exact HB.out | apply below_alloc | apply pw_below_drewN | apply below_drew1) | exact HB.out)))); have n1_ := Aside0.mk (below_step (by repeat (first | (with_reducible first | exact HB.out | apply below_alloc | apply pw_below_drewN | apply below_drew1) | exact HB.out)) hb); clear HB; have HO437 := n0_; have HB := n1_; clear n0_ n1_; (try clear hb); (try clear hb2); (try clear hk); (try clear hi); (try clear ho0); obtain ⟨Ao43, co43, eo43⟩ := Kd.N_slice HO437.out; subst eo43) | ((with_reducible refine gate_callee (f := 53) rfl ?_); refine goesL_ (some 60) rfl rfl Try.func53 (by kernel_rfl) rfl #[.slice Ao43 t434.length co43] rfl (by (try simp only [List.map_toArray, List.map_cons, List.map_nil]); first | done | rfl | (simp only [List.length_drop, List.length_take]; rfl)) ?_; (with_reducible refine (block_Put.calls _ _ t434 t438 t439 _ ?side1 ?side2 A29.out).mono ?_); (case side1 => repeat (first | exact (Kd.N_reads' HO437.out).2.2 | (with_reducible refine Kd.C_alloc ?_ _) | (with_reducible refine Kd.C_drewN ?_ _) | (with_reducible refine Kd.C_drew ?_))); (case side2 => exact (Kd.N_reads' HO437.out).2.1); rintro e w44 ⟨v440, rfl, ho0, hb⟩; refine ⟨_, rfl, ?_⟩; have n0_ := Aside0.mk (Kd.N_elder' (by (with_reducible repeat (first | apply Kd.N_alloc | apply Kd.N_drewN | apply Kd.N_drew)); exact HO437.out) (Kd.R_base ho0) hb); have n1_ := Aside0.mk (Kd.R_lower ho0 (below_size (by repeat (first | (with_reducible first | exact HB.out | apply below_alloc | apply pw_below_drewN | apply below_drew1) | exact HB.out)))); have n2_ := Aside0.mk (below_step (by repeat (first | (with_reducible first | exact HB.out | apply below_alloc | apply pw_below_drewN | apply below_drew1) | exact HB.out)) hb); clear HO437; clear HB; have HO437 := n0_; have HO441 := n1_; have HB := n2_; clear n0_ n1_ n2_; (try clear hb); (try clear hb2); (try clear hk); (try clear hi); (try clear ho0); have hcv45 := own_string (P := Try.prog) Try.underlying24 Try.underlying5 Try.underlying9 (Kd.own_of_R HO441.out); have hcv46 := Kd.C_string (P := Try.prog) (A := A1) (c := c1) Try.underlying24 Try.underlying5 Try.underlying9 (Kd.C_below HR433.out HB.out); rw [show (l1.take ((ji25) : Int).toNat).length = (ji25).toNat from (by rw [List.length_take]; have h_ : ((ji25) : Int) ≤ (l1.length : Int) := of_decide_eq_true (by first | (with_reducible assumption) | assumption); omega)] at hcv46))
                      go_ret
                      exact ⟨by first | rfl | (simp [errW_none, errW_some] <;> rfl) | (simp only [← hji25]; first | rfl | (simp [errW_none, errW_some] <;> rfl)) | (simp [*, errW_none, errW_some] <;> rfl), by repeat (first | (with_reducible first | exact HB.out | apply below_alloc | apply pw_below_drewN | apply below_drew1) | exact HB.out)⟩
                    · rw [if_neg c40] at H
                      have c40b0 : (t435 == 90) = false := beq_eq_false_iff_ne.mpr c40
                      have c40b1 : (t435 != 90) = true := bne_iff_ne.mpr c40
                      obtain rfl := Option.some.inj H
                      obtain ⟨i047, hi047, _, hsz47, _⟩ := info_parts info5
                      obtain ⟨hcut47, hA47, hC47⟩ := print_take_of (P := Try.prog) (Value.int .u8) 0 24 5 .i64 Try.underlying24 hi047 hsz47 A1 c1 l1 (ji25) (of_decide_eq_true (by first | (with_reducible assumption) | assumption)) (of_decide_eq_true (by first | (with_reducible assumption) | assumption)) HC1.out
                      have HR433 := Aside0.mk (Kd.C_of_reads (h1 := fun _ => rfl) (hA47 _ (Kd.reads_of_C HR1.out)))
                      have HC433 := Aside0.mk hC47
                      clear hA47 hC47 hi047 hsz47
                      go_wp2_with (first | ((with_reducible refine gate_callee (f := 59) rfl ?_); refine goesL_ (some 55) rfl rfl Try.func59 (by kernel_rfl) rfl #[.slice A1 (l1.take ((ji25) : Int).toNat).length c1] rfl (by (try simp only [List.map_toArray, List.map_cons, List.map_nil]); first | done | (rw [show (l1.take ((ji25) : Int).toNat).length = (ji25).toNat from (by rw [List.length_take]; have h_ : ((ji25) : Int) ≤ (l1.length : Int) := of_decide_eq_true (by first | (with_reducible assumption) | assumption); omega)] <;> rfl) | (simp only [hji25]; rfl) | rfl | (simp only [List.length_drop, List.length_take]; rfl)) ?_; (with_reducible refine (block_Take.calls _ _ (l1.take ((ji25) : Int).toNat) t434 t435 _ ?side1 ?side2 A28.out).mono ?_); (case side1 => repeat (first | exact (Kd.C_below HR433.out HB.out) | (with_reducible refine Kd.C_alloc ?_ _) | (with_reducible refine Kd.C_drewN ?_ _) | (with_reducible refine Kd.C_drew ?_))); (case side2 => exact HC433.out); rintro e w48 ⟨v436, rfl, ho0, hb⟩; refine ⟨_, rfl, ?_⟩; have n0_ := Aside0.mk (Kd.N_lower (Kd.N_mono (ok' := fun k_ => True) ((Kd.N_bound ho0)) (fun k_ hk_ => trivial)) (below_size (by repeat (first | (with_reducible first | exact HB.out | apply below_alloc | apply pw_below_drewN | apply below_drew1) | exact HB.out)))); have n1_ := Aside0.mk (below_step (by repeat (first | (with_reducible first | exact HB.out | apply below_alloc | apply pw_below_drewN | apply below_drew1) | exact HB.out)) hb); clear HB; have HO437 := n0_; have HB := n1_; clear n0_ n1_; (try clear hb); (try clear hb2); (try clear hk); (try clear hi); (try clear ho0); obtain ⟨Ao49, co49, eo49⟩ := Kd.N_slice HO437.out; subst eo49) | ((with_reducible refine gate_callee (f := 53) rfl ?_); refine goesL_ (some 60) rfl rfl Try.func53 (by kernel_rfl) rfl #[.slice Ao49 t434.length co49] rfl (by (try simp only [List.map_toArray, List.map_cons, List.map_nil]); first | done | rfl | (simp only [List.length_drop, List.length_take]; rfl)) ?_; (with_reducible refine (block_Put.calls _ _ t434 t438 t439 _ ?side1 ?side2 A29.out).mono ?_); (case side1 => repeat (first | exact (Kd.N_reads' HO437.out).2.2 | (with_reducible refine Kd.C_alloc ?_ _) | (with_reducible refine Kd.C_drewN ?_ _) | (with_reducible refine Kd.C_drew ?_))); (case side2 => exact (Kd.N_reads' HO437.out).2.1); rintro e w50 ⟨v440, rfl, ho0, hb⟩; refine ⟨_, rfl, ?_⟩; have n0_ := Aside0.mk (Kd.N_elder' (by (with_reducible repeat (first | apply Kd.N_alloc | apply Kd.N_drewN | apply Kd.N_drew)); exact HO437.out) (Kd.R_base ho0) hb); have n1_ := Aside0.mk (Kd.R_lower ho0 (below_size (by repeat (first | (with_reducible first | exact HB.out | apply below_alloc | apply pw_below_drewN | apply below_drew1) | exact HB.out)))); have n2_ := Aside0.mk (below_step (by repeat (first | (with_reducible first | exact HB.out | apply below_alloc | apply pw_below_drewN | apply below_drew1) | exact HB.out)) hb); clear HO437; clear HB; have HO437 := n0_; have HO441 := n1_; have HB := n2_; clear n0_ n1_ n2_; (try clear hb); (try clear hb2); (try clear hk); (try clear hi); (try clear ho0); have hcv51 := own_string (P := Try.prog) Try.underlying24 Try.underlying5 Try.underlying9 (Kd.own_of_R HO441.out); have hcv52 := Kd.C_string (P := Try.prog) (A := A1) (c := c1) Try.underlying24 Try.underlying5 Try.underlying9 (Kd.C_below HR433.out HB.out); rw [show (l1.take ((ji25) : Int).toNat).length = (ji25).toNat from (by rw [List.length_take]; have h_ : ((ji25) : Int) ≤ (l1.length : Int) := of_decide_eq_true (by first | (with_reducible assumption) | assumption); omega)] at hcv52))
                      go_ret
                      exact ⟨by first | rfl | (simp [errW_none, errW_some] <;> rfl) | (simp only [← hji25]; first | rfl | (simp [errW_none, errW_some] <;> rfl)) | (simp [*, errW_none, errW_some] <;> rfl), by repeat (first | (with_reducible first | exact HB.out | apply below_alloc | apply pw_below_drewN | apply below_drew1) | exact HB.out)⟩
                · rw [if_neg c32] at H
                  have c32b0 : (t439 == 0) = false := beq_eq_false_iff_ne.mpr c32
                  have c32b1 : (t439 != 0) = true := bne_iff_ne.mpr c32
                  by_cases c53 : t435 = 90
                  · rw [if_pos c53] at H
                    have c53b0 : (t435 == 90) = true := beq_iff_eq.mpr c53
                    have c53b1 : (t435 != 90) = false := bne_eq_false_iff_eq.mpr c53
                    clear c53
                    obtain rfl := Option.some.inj H
                    obtain ⟨i054, hi054, _, hsz54, _⟩ := info_parts info5
                    obtain ⟨hcut54, hA54, hC54⟩ := print_take_of (P := Try.prog) (Value.int .u8) 0 24 5 .i64 Try.underlying24 hi054 hsz54 A1 c1 l1 (ji25) (of_decide_eq_true (by first | (with_reducible assumption) | assumption)) (of_decide_eq_true (by first | (with_reducible assumption) | assumption)) HC1.out
                    have HR433 := Aside0.mk (Kd.C_of_reads (h1 := fun _ => rfl) (hA54 _ (Kd.reads_of_C HR1.out)))
                    have HC433 := Aside0.mk hC54
                    clear hA54 hC54 hi054 hsz54
                    go_wp2_with (first | ((with_reducible refine gate_callee (f := 59) rfl ?_); refine goesL_ (some 55) rfl rfl Try.func59 (by kernel_rfl) rfl #[.slice A1 (l1.take ((ji25) : Int).toNat).length c1] rfl (by (try simp only [List.map_toArray, List.map_cons, List.map_nil]); first | done | (rw [show (l1.take ((ji25) : Int).toNat).length = (ji25).toNat from (by rw [List.length_take]; have h_ : ((ji25) : Int) ≤ (l1.length : Int) := of_decide_eq_true (by first | (with_reducible assumption) | assumption); omega)] <;> rfl) | (simp only [hji25]; rfl) | rfl | (simp only [List.length_drop, List.length_take]; rfl)) ?_; (with_reducible refine (block_Take.calls _ _ (l1.take ((ji25) : Int).toNat) t434 t435 _ ?side1 ?side2 A28.out).mono ?_); (case side1 => repeat (first | exact (Kd.C_below HR433.out HB.out) | (with_reducible refine Kd.C_alloc ?_ _) | (with_reducible refine Kd.C_drewN ?_ _) | (with_reducible refine Kd.C_drew ?_))); (case side2 => exact HC433.out); rintro e w55 ⟨v436, rfl, ho0, hb⟩; refine ⟨_, rfl, ?_⟩; have n0_ := Aside0.mk (Kd.N_lower (Kd.N_mono (ok' := fun k_ => True) ((Kd.N_bound ho0)) (fun k_ hk_ => trivial)) (below_size (by repeat (first | (with_reducible first | exact HB.out | apply below_alloc | apply pw_below_drewN | apply below_drew1) | exact HB.out)))); have n1_ := Aside0.mk (below_step (by repeat (first | (with_reducible first | exact HB.out | apply below_alloc | apply pw_below_drewN | apply below_drew1) | exact HB.out)) hb); clear HB; have HO437 := n0_; have HB := n1_; clear n0_ n1_; (try clear hb); (try clear hb2); (try clear hk); (try clear hi); (try clear ho0); obtain ⟨Ao56, co56, eo56⟩ := Kd.N_slice HO437.out; subst eo56) | ((with_reducible refine gate_callee (f := 53) rfl ?_); refine goesL_ (some 60) rfl rfl Try.func53 (by kernel_rfl) rfl #[.slice Ao56 t434.length co56] rfl (by (try simp only [List.map_toArray, List.map_cons, List.map_nil]); first | done | rfl | (simp only [List.length_drop, List.length_take]; rfl)) ?_; (with_reducible refine (block_Put.calls _ _ t434 t438 t439 _ ?side1 ?side2 A29.out).mono ?_); (case side1 => repeat (first | exact (Kd.N_reads' HO437.out).2.2 | (with_reducible refine Kd.C_alloc ?_ _) | (with_reducible refine Kd.C_drewN ?_ _) | (with_reducible refine Kd.C_drew ?_))); (case side2 => exact (Kd.N_reads' HO437.out).2.1); rintro e w57 ⟨v440, rfl, ho0, hb⟩; refine ⟨_, rfl, ?_⟩; have n0_ := Aside0.mk (Kd.N_elder' (by (with_reducible repeat (first | apply Kd.N_alloc | apply Kd.N_drewN | apply Kd.N_drew)); exact HO437.out) (Kd.R_base ho0) hb); have n1_ := Aside0.mk (Kd.R_lower ho0 (below_size (by repeat (first | (with_reducible first | exact HB.out | apply below_alloc | apply pw_below_drewN | apply below_drew1) | exact HB.out)))); have n2_ := Aside0.mk (below_step (by repeat (first | (with_reducible first | exact HB.out | apply below_alloc | apply pw_below_drewN | apply below_drew1) | exact HB.out)) hb); clear HO437; clear HB; have HO437 := n0_; have HO441 := n1_; have HB := n2_; clear n0_ n1_ n2_; (try clear hb); (try clear hb2); (try clear hk); (try clear hi); (try clear ho0)))
                    go_ret
                    exact ⟨by first | rfl | (simp [errW_none, errW_some] <;> rfl) | (simp only [← hji25]; first | rfl | (simp [errW_none, errW_some] <;> rfl)) | (simp [*, errW_none, errW_some] <;> rfl), by repeat (first | (with_reducible first | exact HB.out | apply below_alloc | apply pw_below_drewN | apply below_drew1) | exact HB.out)⟩
                  · rw [if_neg c53] at H
                    have c53b0 : (t435 == 90) = false := beq_eq_false_iff_ne.mpr c53
                    have c53b1 : (t435 != 90) = true := bne_iff_ne.mpr c53
                    obtain rfl := Option.some.inj H
                    obtain ⟨i058, hi058, _, hsz58, _⟩ := info_parts info5
                    obtain ⟨hcut58, hA58, hC58⟩ := print_take_of (P := Try.prog) (Value.int .u8) 0 24 5 .i64 Try.underlying24 hi058 hsz58 A1 c1 l1 (ji25) (of_decide_eq_true (by first | (with_reducible assumption) | assumption)) (of_decide_eq_true (by first | (with_reducible assumption) | assumption)) HC1.out
                    have HR433 := Aside0.mk (Kd.C_of_reads (h1 := fun _ => rfl) (hA58 _ (Kd.reads_of_C HR1.out)))
                    have HC433 := Aside0.mk hC58
                    clear hA58 hC58 hi058 hsz58
                    go_wp2_with (first | ((with_reducible refine gate_callee (f := 59) rfl ?_); refine goesL_ (some 55) rfl rfl Try.func59 (by kernel_rfl) rfl #[.slice A1 (l1.take ((ji25) : Int).toNat).length c1] rfl (by (try simp only [List.map_toArray, List.map_cons, List.map_nil]); first | done | (rw [show (l1.take ((ji25) : Int).toNat).length = (ji25).toNat from (by rw [List.length_take]; have h_ : ((ji25) : Int) ≤ (l1.length : Int) := of_decide_eq_true (by first | (with_reducible assumption) | assumption); omega)] <;> rfl) | (simp only [hji25]; rfl) | rfl | (simp only [List.length_drop, List.length_take]; rfl)) ?_; (with_reducible refine (block_Take.calls _ _ (l1.take ((ji25) : Int).toNat) t434 t435 _ ?side1 ?side2 A28.out).mono ?_); (case side1 => repeat (first | exact (Kd.C_below HR433.out HB.out) | (with_reducible refine Kd.C_alloc ?_ _) | (with_reducible refine Kd.C_drewN ?_ _) | (with_reducible refine Kd.C_drew ?_))); (case side2 => exact HC433.out); rintro e w59 ⟨v436, rfl, ho0, hb⟩; refine ⟨_, rfl, ?_⟩; have n0_ := Aside0.mk (Kd.N_lower (Kd.N_mono (ok' := fun k_ => True) ((Kd.N_bound ho0)) (fun k_ hk_ => trivial)) (below_size (by repeat (first | (with_reducible first | exact HB.out | apply below_alloc | apply pw_below_drewN | apply below_drew1) | exact HB.out)))); have n1_ := Aside0.mk (below_step (by repeat (first | (with_reducible first | exact HB.out | apply below_alloc | apply pw_below_drewN | apply below_drew1) | exact HB.out)) hb); clear HB; have HO437 := n0_; have HB := n1_; clear n0_ n1_; (try clear hb); (try clear hb2); (try clear hk); (try clear hi); (try clear ho0); obtain ⟨Ao60, co60, eo60⟩ := Kd.N_slice HO437.out; subst eo60) | ((with_reducible refine gate_callee (f := 53) rfl ?_); refine goesL_ (some 60) rfl rfl Try.func53 (by kernel_rfl) rfl #[.slice Ao60 t434.length co60] rfl (by (try simp only [List.map_toArray, List.map_cons, List.map_nil]); first | done | rfl | (simp only [List.length_drop, List.length_take]; rfl)) ?_; (with_reducible refine (block_Put.calls _ _ t434 t438 t439 _ ?side1 ?side2 A29.out).mono ?_); (case side1 => repeat (first | exact (Kd.N_reads' HO437.out).2.2 | (with_reducible refine Kd.C_alloc ?_ _) | (with_reducible refine Kd.C_drewN ?_ _) | (with_reducible refine Kd.C_drew ?_))); (case side2 => exact (Kd.N_reads' HO437.out).2.1); rintro e w61 ⟨v440, rfl, ho0, hb⟩; refine ⟨_, rfl, ?_⟩; have n0_ := Aside0.mk (Kd.N_elder' (by (with_reducible repeat (first | apply Kd.N_alloc | apply Kd.N_drewN | apply Kd.N_drew)); exact HO437.out) (Kd.R_base ho0) hb); have n1_ := Aside0.mk (Kd.R_lower ho0 (below_size (by repeat (first | (with_reducible first | exact HB.out | apply below_alloc | apply pw_below_drewN | apply below_drew1) | exact HB.out)))); have n2_ := Aside0.mk (below_step (by repeat (first | (with_reducible first | exact HB.out | apply below_alloc | apply pw_below_drewN | apply below_drew1) | exact HB.out)) hb); clear HO437; clear HB; have HO437 := n0_; have HO441 := n1_; have HB := n2_; clear n0_ n1_ n2_; (try clear hb); (try clear hb2); (try clear hk); (try clear hi); (try clear ho0)))
                    go_ret
                    exact ⟨by first | rfl | (simp [errW_none, errW_some] <;> rfl) | (simp only [← hji25]; first | rfl | (simp [errW_none, errW_some] <;> rfl)) | (simp [*, errW_none, errW_some] <;> rfl), by repeat (first | (with_reducible first | exact HB.out | apply below_alloc | apply pw_below_drewN | apply below_drew1) | exact HB.out)⟩
              · rw [if_neg c31] at H
                have c31b0 : (t435 == 0) = false := beq_eq_false_iff_ne.mpr c31
                have c31b1 : (t435 != 0) = true := bne_iff_ne.mpr c31
                by_cases c62 : t435 = 90
                · rw [if_pos c62] at H
                  have c62b0 : (t435 == 90) = true := beq_iff_eq.mpr c62
                  have c62b1 : (t435 != 90) = false := bne_eq_false_iff_eq.mpr c62
                  clear c62
                  obtain rfl := Option.some.inj H
                  obtain ⟨i063, hi063, _, hsz63, _⟩ := info_parts info5
                  obtain ⟨hcut63, hA63, hC63⟩ := print_take_of (P := Try.prog) (Value.int .u8) 0 24 5 .i64 Try.underlying24 hi063 hsz63 A1 c1 l1 (ji25) (of_decide_eq_true (by first | (with_reducible assumption) | assumption)) (of_decide_eq_true (by first | (with_reducible assumption) | assumption)) HC1.out
                  have HR433 := Aside0.mk (Kd.C_of_reads (h1 := fun _ => rfl) (hA63 _ (Kd.reads_of_C HR1.out)))
                  have HC433 := Aside0.mk hC63
                  clear hA63 hC63 hi063 hsz63
                  go_wp2_with (first | ((with_reducible refine gate_callee (f := 59) rfl ?_); refine goesL_ (some 55) rfl rfl Try.func59 (by kernel_rfl) rfl #[.slice A1 (l1.take ((ji25) : Int).toNat).length c1] rfl (by (try simp only [List.map_toArray, List.map_cons, List.map_nil]); first | done | (rw [show (l1.take ((ji25) : Int).toNat).length = (ji25).toNat from (by rw [List.length_take]; have h_ : ((ji25) : Int) ≤ (l1.length : Int) := of_decide_eq_true (by first | (with_reducible assumption) | assumption); omega)] <;> rfl) | (simp only [hji25]; rfl) | rfl | (simp only [List.length_drop, List.length_take]; rfl)) ?_; (with_reducible refine (block_Take.calls _ _ (l1.take ((ji25) : Int).toNat) t434 t435 _ ?side1 ?side2 A28.out).mono ?_); (case side1 => repeat (first | exact (Kd.C_below HR433.out HB.out) | (with_reducible refine Kd.C_alloc ?_ _) | (with_reducible refine Kd.C_drewN ?_ _) | (with_reducible refine Kd.C_drew ?_))); (case side2 => exact HC433.out); rintro e w64 ⟨v436, rfl, ho0, hb⟩; refine ⟨_, rfl, ?_⟩; have n0_ := Aside0.mk (Kd.N_lower (Kd.N_mono (ok' := fun k_ => True) ((Kd.N_bound ho0)) (fun k_ hk_ => trivial)) (below_size (by repeat (first | (with_reducible first | exact HB.out | apply below_alloc | apply pw_below_drewN | apply below_drew1) | exact HB.out)))); have n1_ := Aside0.mk (below_step (by repeat (first | (with_reducible first | exact HB.out | apply below_alloc | apply pw_below_drewN | apply below_drew1) | exact HB.out)) hb); clear HB; have HO437 := n0_; have HB := n1_; clear n0_ n1_; (try clear hb); (try clear hb2); (try clear hk); (try clear hi); (try clear ho0); obtain ⟨Ao65, co65, eo65⟩ := Kd.N_slice HO437.out; subst eo65) | ((with_reducible refine gate_callee (f := 53) rfl ?_); refine goesL_ (some 60) rfl rfl Try.func53 (by kernel_rfl) rfl #[.slice Ao65 t434.length co65] rfl (by (try simp only [List.map_toArray, List.map_cons, List.map_nil]); first | done | rfl | (simp only [List.length_drop, List.length_take]; rfl)) ?_; (with_reducible refine (block_Put.calls _ _ t434 t438 t439 _ ?side1 ?side2 A29.out).mono ?_); (case side1 => repeat (first | exact (Kd.N_reads' HO437.out).2.2 | (with_reducible refine Kd.C_alloc ?_ _) | (with_reducible refine Kd.C_drewN ?_ _) | (with_reducible refine Kd.C_drew ?_))); (case side2 => exact (Kd.N_reads' HO437.out).2.1); rintro e w66 ⟨v440, rfl, ho0, hb⟩; refine ⟨_, rfl, ?_⟩; have n0_ := Aside0.mk (Kd.N_elder' (by (with_reducible repeat (first | apply Kd.N_alloc | apply Kd.N_drewN | apply Kd.N_drew)); exact HO437.out) (Kd.R_base ho0) hb); have n1_ := Aside0.mk (Kd.R_lower ho0 (below_size (by repeat (first | (with_reducible first | exact HB.out | apply below_alloc | apply pw_below_drewN | apply below_drew1) | exact HB.out)))); have n2_ := Aside0.mk (below_step (by repeat (first | (with_reducible first | exact HB.out | apply below_alloc | apply pw_below_drewN | apply below_drew1) | exact HB.out)) hb); clear HO437; clear HB; have HO437 := n0_; have HO441 := n1_; have HB := n2_; clear n0_ n1_ n2_; (try clear hb); (try clear hb2); (try clear hk); (try clear hi); (try clear ho0)))
                  go_ret
                  exact ⟨by first | rfl | (simp [errW_none, errW_some] <;> rfl) | (simp only [← hji25]; first | rfl | (simp [errW_none, errW_some] <;> rfl)) | (simp [*, errW_none, errW_some] <;> rfl), by repeat (first | (with_reducible first | exact HB.out | apply below_alloc | apply pw_below_drewN | apply below_drew1) | exact HB.out)⟩
                · rw [if_neg c62] at H
                  have c62b0 : (t435 == 90) = false := beq_eq_false_iff_ne.mpr c62
                  have c62b1 : (t435 != 90) = true := bne_iff_ne.mpr c62
                  obtain rfl := Option.some.inj H
                  obtain ⟨i067, hi067, _, hsz67, _⟩ := info_parts info5
                  obtain ⟨hcut67, hA67, hC67⟩ := print_take_of (P := Try.prog) (Value.int .u8) 0 24 5 .i64 Try.underlying24 hi067 hsz67 A1 c1 l1 (ji25) (of_decide_eq_true (by first | (with_reducible assumption) | assumption)) (of_decide_eq_true (by first | (with_reducible assumption) | assumption)) HC1.out
                  have HR433 := Aside0.mk (Kd.C_of_reads (h1 := fun _ => rfl) (hA67 _ (Kd.reads_of_C HR1.out)))
                  have HC433 := Aside0.mk hC67
                  clear hA67 hC67 hi067 hsz67
                  go_wp2_with (first | ((with_reducible refine gate_callee (f := 59) rfl ?_); refine goesL_ (some 55) rfl rfl Try.func59 (by kernel_rfl) rfl #[.slice A1 (l1.take ((ji25) : Int).toNat).length c1] rfl (by (try simp only [List.map_toArray, List.map_cons, List.map_nil]); first | done | (rw [show (l1.take ((ji25) : Int).toNat).length = (ji25).toNat from (by rw [List.length_take]; have h_ : ((ji25) : Int) ≤ (l1.length : Int) := of_decide_eq_true (by first | (with_reducible assumption) | assumption); omega)] <;> rfl) | (simp only [hji25]; rfl) | rfl | (simp only [List.length_drop, List.length_take]; rfl)) ?_; (with_reducible refine (block_Take.calls _ _ (l1.take ((ji25) : Int).toNat) t434 t435 _ ?side1 ?side2 A28.out).mono ?_); (case side1 => repeat (first | exact (Kd.C_below HR433.out HB.out) | (with_reducible refine Kd.C_alloc ?_ _) | (with_reducible refine Kd.C_drewN ?_ _) | (with_reducible refine Kd.C_drew ?_))); (case side2 => exact HC433.out); rintro e w68 ⟨v436, rfl, ho0, hb⟩; refine ⟨_, rfl, ?_⟩; have n0_ := Aside0.mk (Kd.N_lower (Kd.N_mono (ok' := fun k_ => True) ((Kd.N_bound ho0)) (fun k_ hk_ => trivial)) (below_size (by repeat (first | (with_reducible first | exact HB.out | apply below_alloc | apply pw_below_drewN | apply below_drew1) | exact HB.out)))); have n1_ := Aside0.mk (below_step (by repeat (first | (with_reducible first | exact HB.out | apply below_alloc | apply pw_below_drewN | apply below_drew1) | exact HB.out)) hb); clear HB; have HO437 := n0_; have HB := n1_; clear n0_ n1_; (try clear hb); (try clear hb2); (try clear hk); (try clear hi); (try clear ho0); obtain ⟨Ao69, co69, eo69⟩ := Kd.N_slice HO437.out; subst eo69) | ((with_reducible refine gate_callee (f := 53) rfl ?_); refine goesL_ (some 60) rfl rfl Try.func53 (by kernel_rfl) rfl #[.slice Ao69 t434.length co69] rfl (by (try simp only [List.map_toArray, List.map_cons, List.map_nil]); first | done | rfl | (simp only [List.length_drop, List.length_take]; rfl)) ?_; (with_reducible refine (block_Put.calls _ _ t434 t438 t439 _ ?side1 ?side2 A29.out).mono ?_); (case side1 => repeat (first | exact (Kd.N_reads' HO437.out).2.2 | (with_reducible refine Kd.C_alloc ?_ _) | (with_reducible refine Kd.C_drewN ?_ _) | (with_reducible refine Kd.C_drew ?_))); (case side2 => exact (Kd.N_reads' HO437.out).2.1); rintro e w70 ⟨v440, rfl, ho0, hb⟩; refine ⟨_, rfl, ?_⟩; have n0_ := Aside0.mk (Kd.N_elder' (by (with_reducible repeat (first | apply Kd.N_alloc | apply Kd.N_drewN | apply Kd.N_drew)); exact HO437.out) (Kd.R_base ho0) hb); have n1_ := Aside0.mk (Kd.R_lower ho0 (below_size (by repeat (first | (with_reducible first | exact HB.out | apply below_alloc | apply pw_below_drewN | apply below_drew1) | exact HB.out)))); have n2_ := Aside0.mk (below_step (by repeat (first | (with_reducible first | exact HB.out | apply below_alloc | apply pw_below_drewN | apply below_drew1) | exact HB.out)) hb); clear HO437; clear HB; have HO437 := n0_; have HO441 := n1_; have HB := n2_; clear n0_ n1_ n2_; (try clear hb); (try clear hb2); (try clear hk); (try clear hi); (try clear ho0)))
                  go_ret
                  exact ⟨by first | rfl | (simp [errW_none, errW_some] <;> rfl) | (simp only [← hji25]; first | rfl | (simp [errW_none, errW_some] <;> rfl)) | (simp [*, errW_none, errW_some] <;> rfl), by repeat (first | (with_reducible first | exact HB.out | apply below_alloc | apply pw_below_drewN | apply below_drew1) | exact HB.out)⟩
            · replace c30 := Bool.eq_false_iff.mpr c30
              subst c30
              have H1 : (some false) = some r := by rw [if_neg (show ¬ (false = true) by decide)] at H; exact H
              clear H
              have H := H1
              clear H1
              obtain rfl := Option.some.inj H
              obtain ⟨i071, hi071, _, hsz71, _⟩ := info_parts info5
              obtain ⟨hcut71, hA71, hC71⟩ := print_take_of (P := Try.prog) (Value.int .u8) 0 24 5 .i64 Try.underlying24 hi071 hsz71 A1 c1 l1 (ji25) (of_decide_eq_true (by first | (with_reducible assumption) | assumption)) (of_decide_eq_true (by first | (with_reducible assumption) | assumption)) HC1.out
              have HR433 := Aside0.mk (Kd.C_of_reads (h1 := fun _ => rfl) (hA71 _ (Kd.reads_of_C HR1.out)))
              have HC433 := Aside0.mk hC71
              clear hA71 hC71 hi071 hsz71
              go_wp2_with (first | ((with_reducible refine gate_callee (f := 59) rfl ?_); refine goesL_ (some 55) rfl rfl Try.func59 (by kernel_rfl) rfl #[.slice A1 (l1.take ((ji25) : Int).toNat).length c1] rfl (by (try simp only [List.map_toArray, List.map_cons, List.map_nil]); first | done | (rw [show (l1.take ((ji25) : Int).toNat).length = (ji25).toNat from (by rw [List.length_take]; have h_ : ((ji25) : Int) ≤ (l1.length : Int) := of_decide_eq_true (by first | (with_reducible assumption) | assumption); omega)] <;> rfl) | (simp only [hji25]; rfl) | rfl | (simp only [List.length_drop, List.length_take]; rfl)) ?_; (with_reducible refine (block_Take.calls _ _ (l1.take ((ji25) : Int).toNat) t434 t435 _ ?side1 ?side2 A28.out).mono ?_); (case side1 => repeat (first | exact (Kd.C_below HR433.out HB.out) | (with_reducible refine Kd.C_alloc ?_ _) | (with_reducible refine Kd.C_drewN ?_ _) | (with_reducible refine Kd.C_drew ?_))); (case side2 => exact HC433.out); rintro e w72 ⟨v436, rfl, ho0, hb⟩; refine ⟨_, rfl, ?_⟩; have n0_ := Aside0.mk (Kd.N_lower (Kd.N_mono (ok' := fun k_ => True) ((Kd.N_bound ho0)) (fun k_ hk_ => trivial)) (below_size (by repeat (first | (with_reducible first | exact HB.out | apply below_alloc | apply pw_below_drewN | apply below_drew1) | exact HB.out)))); have n1_ := Aside0.mk (below_step (by repeat (first | (with_reducible first | exact HB.out | apply below_alloc | apply pw_below_drewN | apply below_drew1) | exact HB.out)) hb); clear HB; have HO437 := n0_; have HB := n1_; clear n0_ n1_; (try clear hb); (try clear hb2); (try clear hk); (try clear hi); (try clear ho0); obtain ⟨Ao73, co73, eo73⟩ := Kd.N_slice HO437.out; subst eo73) | ((with_reducible refine gate_callee (f := 53) rfl ?_); refine goesL_ (some 60) rfl rfl Try.func53 (by kernel_rfl) rfl #[.slice Ao73 t434.length co73] rfl (by (try simp only [List.map_toArray, List.map_cons, List.map_nil]); first | done | rfl | (simp only [List.length_drop, List.length_take]; rfl)) ?_; (with_reducible refine (block_Put.calls _ _ t434 t438 t439 _ ?side1 ?side2 A29.out).mono ?_); (case side1 => repeat (first | exact (Kd.N_reads' HO437.out).2.2 | (with_reducible refine Kd.C_alloc ?_ _) | (with_reducible refine Kd.C_drewN ?_ _) | (with_reducible refine Kd.C_drew ?_))); (case side2 => exact (Kd.N_reads' HO437.out).2.1); rintro e w74 ⟨v440, rfl, ho0, hb⟩; refine ⟨_, rfl, ?_⟩; have n0_ := Aside0.mk (Kd.N_elder' (by (with_reducible repeat (first | apply Kd.N_alloc | apply Kd.N_drewN | apply Kd.N_drew)); exact HO437.out) (Kd.R_base ho0) hb); have n1_ := Aside0.mk (Kd.R_lower ho0 (below_size (by repeat (first | (with_reducible first | exact HB.out | apply below_alloc | apply pw_below_drewN | apply below_drew1) | exact HB.out)))); have n2_ := Aside0.mk (below_step (by repeat (first | (with_reducible first | exact HB.out | apply below_alloc | apply pw_below_drewN | apply below_drew1) | exact HB.out)) hb); clear HO437; clear HB; have HO437 := n0_; have HO441 := n1_; have HB := n2_; clear n0_ n1_ n2_; (try clear hb); (try clear hb2); (try clear hk); (try clear hi); (try clear ho0)))
              go_ret
              exact ⟨by first | rfl | (simp [errW_none, errW_some] <;> rfl) | (simp only [← hji25]; first | rfl | (simp [errW_none, errW_some] <;> rfl)) | (simp [*, errW_none, errW_some] <;> rfl), by repeat (first | (with_reducible first | exact HB.out | apply below_alloc | apply pw_below_drewN | apply below_drew1) | exact HB.out)⟩
          · rw [if_neg c27] at H
            exact absurd H (by simp)
        · rw [if_neg c26] at H
          exact absurd H (by simp)

end Go.Proofs.Ythkpnnbjcendcaa.X
end
section
/- The plain statement of BlockBack, over numbers and lists. -/
namespace Go.Proofs.Ythkpnnbjcendcaa.X
open Go.RowKit Go.Proofs.YthkpnnbjcendcaaW.PrintWords Go.Proofs.YthkpnnbjcendcaaW.PrintLast
def marigraphlaw09_BlockBack.Pure : Prop := ∀ (l0 : List (S109)) (l1 : List Int), l0.length * 32 ≤ 140737488351232 → (∀ y ∈ l0, (Lit.int .i64 y.f0).wf = true ∧ y.f1.length * 16 ≤ 140737488351232 ∧ (∀ z ∈ y.f1, (Lit.int .i64 z.f0).wf = true ∧ (Lit.int .i64 z.f1).wf = true)) → l1.length * 1 ≤ 140737488351232 → (∀ y ∈ l1, (Lit.int .u8 y).wf = true) → ∃ k, marigraphlaw09_BlockBack.f k l0 l1 = some true
end Go.Proofs.Ythkpnnbjcendcaa.X
end
section
/- block.Range, walked: its function values, IndexFunc, DeleteFunc. -/
set_option linter.unusedVariables false
set_option linter.unusedSimpArgs false
open Go.RowKit Go.Proofs.Ythkpnnbjcendcaa.X Go.Proofs.Ythkpnnbjcendcaa.Pl Go.Proofs.Ythkpnnbjcendcaa.Sp Go.Proofs.Ythkpnnbjcendcaa.Pure Go.Proofs.YthkpnnbjcendcaaW.PrintWords Go.Proofs.YthkpnnbjcendcaaW.PrintLast Go.Proofs.YthkpnnbjcendcaaW.PrintMore
namespace Go.Proofs.Ythkpnnbjcendcaa.Pure
/-- A point within the times. -/
def inR (fr tl : Int) (p : S52) : Bool := !(decide (p.f0 < fr) || decide (tl < p.f0))
end Go.Proofs.Ythkpnnbjcendcaa.Pure
namespace Go.Proofs.Ythkpnnbjcendcaa.Sc
end Go.Proofs.Ythkpnnbjcendcaa.Sc
end
section
-- By xprint.py, out of the translation's own print. Lean checks it.
namespace Go.Proofs.Ythkpnnbjcendcaa.X
open Go.RowKit Go.Proofs.YthkpnnbjcendcaaW.PrintWords Go.Proofs.YthkpnnbjcendcaaW.PrintLast Go.Proofs.YthkpnnbjcendcaaW.PrintMore
attribute [local go_sem] max2_int min2_int max_two min_two max_three min_three max_four min_four   -- for this text's walks alone
set_option linter.unusedVariables false
set_option linter.unusedSimpArgs false

/-! ### marigraphref09_Span: function 46 -/
mutual
def marigraphref09_Span.l0 : Nat → List (S109) → Int → Int → Bool → Int → Option (Int × Int × Bool)
  | 0, _, _, _, _, _ => none
  | k + 1, x0, x5, x6, x7, x8 => if x8 < (x0.length : Int) then (marigraphref09_Span.l1 k x0 x5 x6 x7 x8 0) else (some (x5, x6, x7))
def marigraphref09_Span.l1 : Nat → List (S109) → Int → Int → Bool → Int → Int → Option (Int × Int × Bool)
  | 0, _, _, _, _, _, _ => none
  | k + 1, x0, x5, x6, x7, x8, x9 => if 0 ≤ x8 then (if x8 < (x0.length : Int) then (if x9 < (((rd_T109 x0 x8).f1).length : Int) then (if 0 ≤ x9 then (if x7 = true then (marigraphref09_Span.j2 k x0 x5 x6 x7 x8 x9 ((rd_T52 ((rd_T109 x0 x8).f1) x9).f0) (decide (((rd_T52 ((rd_T109 x0 x8).f1) x9).f0) < x5))) else (marigraphref09_Span.j2 k x0 x5 x6 x7 x8 x9 ((rd_T52 ((rd_T109 x0 x8).f1) x9).f0) true)) else (none)) else (marigraphref09_Span.l0 k x0 x5 x6 x7 (wrap64 (x8 + 1)))) else (none)) else (none)
def marigraphref09_Span.j2 : Nat → List (S109) → Int → Int → Bool → Int → Int → Int → Bool → Option (Int × Int × Bool)
  | 0, _, _, _, _, _, _, _, _ => none
  | k + 1, x0, x5, x6, x7, x8, x9, x10, x42 => if x42 = true then (if x7 = true then (if x10 > x6 then (marigraphref09_Span.l1 k x0 x10 x10 true x8 (wrap64 (x9 + 1))) else (marigraphref09_Span.l1 k x0 x10 x6 true x8 (wrap64 (x9 + 1)))) else (marigraphref09_Span.l1 k x0 x10 x10 true x8 (wrap64 (x9 + 1)))) else (if x7 = true then (if x10 > x6 then (marigraphref09_Span.l1 k x0 x5 x10 true x8 (wrap64 (x9 + 1))) else (marigraphref09_Span.l1 k x0 x5 x6 true x8 (wrap64 (x9 + 1)))) else (marigraphref09_Span.l1 k x0 x5 x10 true x8 (wrap64 (x9 + 1))))
end
end Go.Proofs.Ythkpnnbjcendcaa.X
end
section
-- By xprint.py, out of the translation's own print. Lean checks it.
namespace Go.Proofs.Ythkpnnbjcendcaa.X
open Go.RowKit Go.Proofs.YthkpnnbjcendcaaW.PrintWords Go.Proofs.YthkpnnbjcendcaaW.PrintLast Go.Proofs.YthkpnnbjcendcaaW.PrintMore
attribute [local go_sem] max2_int min2_int max_two min_two max_three min_three max_four min_four   -- for this text's walks alone
set_option linter.unusedVariables false
set_option linter.unusedSimpArgs false

/-! ### marigraphref09_Within: function 86 -/
def marigraphref09_Within.l0 : Nat → List (S52) → Int → Int → List (S52) → Int → Option ((List (S52)))
  | 0, _, _, _, _, _ => none
  | k + 1, x0, x1, x2, x7, x8 => if x8 < (x0.length : Int) then (if 0 ≤ x8 then (if ((rd_T52 x0 x8).f0) ≥ x1 then (if ((rd_T52 x0 x8).f0) ≤ x2 then (if x7.length < 8796093022208 then (marigraphref09_Within.l0 k x0 x1 x2 (x7 ++ [(⟨(rd_T52 x0 x8).f0, (rd_T52 x0 x8).f1⟩ : S52)]) (wrap64 (x8 + 1))) else (none)) else (marigraphref09_Within.l0 k x0 x1 x2 x7 (wrap64 (x8 + 1)))) else (marigraphref09_Within.l0 k x0 x1 x2 x7 (wrap64 (x8 + 1)))) else (none)) else (some x7)
end Go.Proofs.Ythkpnnbjcendcaa.X
end
section
/- Layer 9 as plain functions: few, Cut, Span, Range, Same. -/
set_option linter.unusedVariables false
set_option linter.unusedSimpArgs false
open Go.RowKit Go.Proofs.Ythkpnnbjcendcaa.X Go.Proofs.Ythkpnnbjcendcaa.Pl Go.Proofs.YthkpnnbjcendcaaW.PrintWords Go.Proofs.YthkpnnbjcendcaaW.PrintLast Go.Proofs.YthkpnnbjcendcaaW.PrintMore
namespace Go.Proofs.Ythkpnnbjcendcaa.Pure
theorem shown9_ev : Ev (fun k => marigraphlaw09_shown.f k) true := Ev.of (fun k => marigraphlaw09_shown.mono k) (k := 30) (by decide +kernel)

theorem rdp52 (l : List S52) (i : Nat) (h : i < l.length) : rd_T52 l (i : Int) = l[i] := by
  unfold rd_T52; rw [Int.toNat_natCast]; exact getD_lt l i _ h
theorem rdc109 (l : List S109) (i : Nat) (h : i < l.length) : rd_T109 l (i : Int) = l[i] := by
  unfold rd_T109; rw [Int.toNat_natCast]; exact getD_lt l i _ h

/-- One point more. -/
def spanP (s : Int × Int × Bool) (p : S52) : Int × Int × Bool := if s.2.2 = true then (mn s.1 p.f0, mx s.2.1 p.f0, true) else (p.f0, p.f0, true)
def spanL (s : Int × Int × Bool) (l : List S52) : Int × Int × Bool := l.foldl spanP s

theorem span_in (L : List S109) (N : Int) (j : Int) (l : List S52) (hl : l.length < 9223372036854775807) (r : Int × Int × Bool) (d : Nat) : ∀ (i : Nat) (a b : Int) (o : Bool), l.length - i = d → i ≤ l.length →
    (Ev (fun k => block_Span.l0 k (spanL (a, b, o) (l.drop i)).1 (spanL (a, b, o) (l.drop i)).2.1 (spanL (a, b, o) (l.drop i)).2.2 L N (wrap64 (j + 1))) r) →
    Ev (fun k => block_Span.l1 k a b o L N j l (l.length : Int) (i : Int)) r := by
  induction d with
  | zero =>
    intro i a b o hd hi h
    have hi' : i = l.length := by omega
    subst hi'
    refine ev_succ (fun k => by rw [block_Span.l1]) ?_
    refine ev_neg (by omega) ?_
    simpa [spanL] using h
  | succ d ih =>
    intro i a b o hd hi h
    have hlt : i < l.length := by omega
    have hw : wrap64 ((i : Int) + 1) = ((i + 1 : Nat) : Int) := by rw [w64 (by omega) (by omega)]; omega
    have hdr : l.drop i = l[i] :: l.drop (i + 1) := List.drop_eq_getElem_cons hlt
    refine ev_succ (fun k => by rw [block_Span.l1]) ?_
    refine ev_pos (by omega) (ev_pos (by omega) (ev_pos (by omega) ?_))
    rw [rdp52 l i hlt, hw]
    rw [hdr] at h
    cases o with
    | true =>
      refine ev_pos rfl (ih (i + 1) _ _ _ (by omega) (by omega) ?_)
      have e : spanL (a, b, true) (l[i] :: l.drop (i + 1)) = spanL (mn a l[i].f0, mx b l[i].f0, true) (l.drop (i + 1)) := by simp only [spanL, List.foldl_cons, spanP, if_true]
      rw [e] at h; exact h
    | false =>
      refine ev_neg (by simp) (ih (i + 1) _ _ _ (by omega) (by omega) ?_)
      have e : spanL (a, b, false) (l[i] :: l.drop (i + 1)) = spanL (l[i].f0, l[i].f0, true) (l.drop (i + 1)) := by simp only [spanL, List.foldl_cons, spanP]; rfl
      rw [e] at h; exact h

theorem span_out (L : List S109) (hL : L.length < 9223372036854775807) (hE : ∀ c ∈ L, c.f1.length < 9223372036854775807) (d : Nat) : ∀ (i : Nat) (s : Int × Int × Bool), L.length - i = d → i ≤ L.length →
    Ev (fun k => block_Span.l0 k s.1 s.2.1 s.2.2 L (L.length : Int) (i : Int)) (spanL s ((L.drop i).flatMap (·.f1))) := by
  induction d with
  | zero =>
    intro i s hd hi
    have hi' : i = L.length := by omega
    subst hi'
    refine ev_succ (fun k => by rw [block_Span.l0]) ?_
    refine ev_neg (by omega) ?_
    simp only [List.drop_length, List.flatMap_nil, spanL, List.foldl_nil]
    exact Ev.now _
  | succ d ih =>
    intro i s hd hi
    have hlt : i < L.length := by omega
    have hw : wrap64 ((i : Int) + 1) = ((i + 1 : Nat) : Int) := by rw [w64 (by omega) (by omega)]; omega
    have hdr : L.drop i = L[i] :: L.drop (i + 1) := List.drop_eq_getElem_cons hlt
    have hc : L[i].f1.length < 9223372036854775807 := hE _ (List.getElem_mem hlt)
    refine ev_succ (fun k => by rw [block_Span.l0]) ?_
    refine ev_pos (by omega) (ev_pos (by omega) (ev_pos (by omega) ?_))
    rw [rdc109 L i hlt]
    have h := ih (i + 1) (spanL s L[i].f1) (by omega) (by omega)
    have e : spanL (spanL s L[i].f1) ((L.drop (i + 1)).flatMap (·.f1)) = spanL s ((L.drop i).flatMap (·.f1)) := by
      rw [hdr, List.flatMap_cons]
      simp [spanL, List.foldl_append]
    rw [e] at h
    refine span_in L (L.length : Int) (i : Int) L[i].f1 hc _ _ 0 s.1 s.2.1 s.2.2 rfl (Nat.zero_le _) ?_
    rw [List.drop_zero, hw]
    exact h

/-! ### few -/
theorem few_from (l : List S109) (hl : l.length < 4398046511104) (hE : ∀ c ∈ l, c.f1.length < 9223372036854775807) (d : Nat) : ∀ (i : Nat) (left : Int), l.length - i = d → i ≤ l.length → i ≤ 210 → 0 ≤ left → left ≤ 6000 →
    ∃ n, i ≤ n ∧ n ≤ 210 ∧ (∀ c ∈ (l.take n).drop i, c.f1.length ≤ 1100) ∧ ((((l.take n).drop i).flatMap (·.f1)).length : Int) ≤ left ∧ Ev (fun k => marigraphlaw09_few.l0 k (l.take i) left l (l.length : Int) (i : Int)) (l.take n) := by
  have hz : ∀ (i : Nat) (left : Int), i ≤ 210 → 0 ≤ left → (∀ k, marigraphlaw09_few.l0 (k + 1) (l.take i) left l (l.length : Int) (i : Int) = some (l.take i)) →
      ∃ n, i ≤ n ∧ n ≤ 210 ∧ (∀ c ∈ (l.take n).drop i, c.f1.length ≤ 1100) ∧ ((((l.take n).drop i).flatMap (·.f1)).length : Int) ≤ left ∧ Ev (fun k => marigraphlaw09_few.l0 k (l.take i) left l (l.length : Int) (i : Int)) (l.take n) := by
    intro i left h1 h2 h3
    have e : (l.take i).drop i = [] := List.drop_eq_nil_of_le (by rw [List.length_take]; omega)
    exact ⟨i, Nat.le_refl _, h1, (by rw [e]; intro c hc; cases hc), (by rw [e]; simpa using h2), ev_stop h3⟩
  induction d with
  | zero =>
    intro i left hd hi h210 h0 h1
    exact hz i left h210 h0 fun k => by rw [marigraphlaw09_few.l0, if_neg (by omega)]
  | succ d ih =>
    intro i left hd hi h210 h0 h1
    have hlt : i < l.length := by omega
    have hmn := @mn_le left 1100
    by_cases c1 : i ≥ 210
    · exact hz i left h210 h0 fun k => by rw [marigraphlaw09_few.l0, if_pos (by omega), if_pos (by omega), if_pos (by omega), if_pos (by omega)]
    · by_cases c2 : (l[i].f1.length : Int) > mn left 1100
      · exact hz i left h210 h0 fun k => by rw [marigraphlaw09_few.l0, if_pos (by omega), if_pos (by omega), if_pos (by omega), if_neg (by omega), rdc109 l i hlt, if_pos c2]
      · have hw : wrap64 ((i : Int) + 1) = ((i + 1 : Nat) : Int) := by rw [w64 (by omega) (by omega)]; omega
        have hw2 : wrap64 (left - (l[i].f1.length : Int)) = left - (l[i].f1.length : Int) := w64 (by omega) (by omega)
        have ht : l.take i ++ [(⟨l[i].f0, l[i].f1⟩ : S109)] = l.take (i + 1) := (List.take_succ_eq_append_getElem hlt).symm
        obtain ⟨n, g1, g2, g3, g4, g5⟩ := ih (i + 1) (left - (l[i].f1.length : Int)) (by omega) (by omega) (by omega) (by omega) (by omega)
        have hdr : (l.take n).drop i = l[i] :: (l.take n).drop (i + 1) := by
          rw [List.drop_eq_getElem_cons (by rw [List.length_take]; omega), List.getElem_take]
        refine ⟨n, by omega, g2, ?_, ?_, ?_⟩
        · rw [hdr]
          intro c hc
          rcases List.mem_cons.1 hc with rfl | hc
          · omega
          · exact g3 c hc
        · rw [hdr, List.flatMap_cons, List.length_append]
          omega
        · refine ev_succ (fun k => by rw [marigraphlaw09_few.l0]) (ev_pos (by omega) (ev_pos (by omega) (ev_pos (by omega) (ev_neg (by omega) ?_))))
          rw [rdc109 l i hlt, hw, hw2, ht]
          exact ev_neg c2 (ev_pos (by rw [List.length_take]; omega) g5)
theorem few_ev (l : List S109) (hl : l.length < 4398046511104) (hE : ∀ c ∈ l, c.f1.length < 9223372036854775807) : ∃ n, Ev (fun k => marigraphlaw09_few.f k l) (l.take n) ∧ (l.take n).length ≤ 210 ∧ (∀ c ∈ l.take n, c.f1.length ≤ 1100) ∧ ((l.take n).flatMap (·.f1)).length ≤ 6000 := by
  obtain ⟨n, _, g2, g3, g4, g5⟩ := few_from l hl hE l.length 0 6000 (by omega) (Nat.zero_le _) (by omega) (by omega) (by omega)
  rw [List.drop_zero] at g3 g4
  exact ⟨n, g5, by rw [List.length_take]; omega, g3, by omega⟩
/-! ### The reference's Span -/
theorem spanP_ref (s : Int × Int × Bool) (t : S52) (L : List S109) (j : Int) (i : Int) (r : Int × Int × Bool) (h : Ev (fun k => marigraphref09_Span.l1 k L (spanP s t).1 (spanP s t).2.1 true j i) r) (x : Bool) (hx : x = (!s.2.2 || decide (t.f0 < s.1))) (i0 : Int) (hi : wrap64 (i0 + 1) = i) :
    Ev (fun k => marigraphref09_Span.j2 k L s.1 s.2.1 s.2.2 j i0 t.f0 x) r := by
  obtain ⟨a, b, o⟩ := s
  have hmn := @mn_le a t.f0
  have hmx := @mx_le b t.f0
  refine ev_succ (fun k => by rw [marigraphref09_Span.j2]) ?_
  dsimp only at hx h ⊢
  rw [hi]
  cases o
  · have hx : x = true := by rw [hx]; rfl
    refine ev_pos hx (ev_neg (by simp) ?_)
    simpa [spanP] using h
  · have e : spanP (a, b, true) t = (mn a t.f0, mx b t.f0, true) := by simp [spanP]
    rw [e] at h
    dsimp only at h
    by_cases h1 : t.f0 < a
    · have hx : x = true := by rw [hx, decide_eq_true h1]; rfl
      have e1 : mn a t.f0 = t.f0 := by omega
      rw [e1] at h
      refine ev_pos hx (ev_pos rfl ?_)
      by_cases h2 : t.f0 > b
      · have e2 : mx b t.f0 = t.f0 := by omega
        rw [e2] at h
        exact ev_pos h2 h
      · have e2 : mx b t.f0 = b := by omega
        rw [e2] at h
        exact ev_neg h2 h
    · have hx : x = false := by rw [hx, decide_eq_false h1]; rfl
      have e1 : mn a t.f0 = a := by omega
      rw [e1] at h
      refine ev_neg (by rw [hx]; simp) (ev_pos rfl ?_)
      by_cases h2 : t.f0 > b
      · have e2 : mx b t.f0 = t.f0 := by omega
        rw [e2] at h
        exact ev_pos h2 h
      · have e2 : mx b t.f0 = b := by omega
        rw [e2] at h
        exact ev_neg h2 h
theorem spanP_true (s : Int × Int × Bool) (p : S52) : (spanP s p).2.2 = true := by unfold spanP; split <;> rfl
theorem rspan_in (L : List S109) (j : Nat) (hj : j < L.length) (hl : L[j].f1.length < 9223372036854775807) (r : Int × Int × Bool) (d : Nat) : ∀ (i : Nat) (s : Int × Int × Bool), L[j].f1.length - i = d → i ≤ L[j].f1.length →
    (Ev (fun k => marigraphref09_Span.l0 k L (spanL s (L[j].f1.drop i)).1 (spanL s (L[j].f1.drop i)).2.1 (spanL s (L[j].f1.drop i)).2.2 (wrap64 ((j : Int) + 1))) r) →
    Ev (fun k => marigraphref09_Span.l1 k L s.1 s.2.1 s.2.2 (j : Int) (i : Int)) r := by
  induction d with
  | zero =>
    intro i s hd hi h
    refine ev_succ (fun k => by rw [marigraphref09_Span.l1]) (ev_pos (by omega) (ev_pos (by omega) ?_))
    rw [rdc109 L j hj]
    refine ev_neg (by omega) ?_
    rw [List.drop_eq_nil_of_le (by omega)] at h
    exact h
  | succ d ih =>
    intro i s hd hi h
    have hlt : i < L[j].f1.length := by omega
    have hw : wrap64 ((i : Int) + 1) = ((i + 1 : Nat) : Int) := by rw [w64 (by omega) (by omega)]; omega
    rw [List.drop_eq_getElem_cons hlt] at h
    refine ev_succ (fun k => by rw [marigraphref09_Span.l1]) (ev_pos (by omega) (ev_pos (by omega) ?_))
    rw [rdc109 L j hj]
    refine ev_pos (by omega) (ev_pos (by omega) ?_)
    rw [rdp52 _ i hlt]
    have h2 := ih (i + 1) (spanP s L[j].f1[i]) (by omega) (by omega) h
    rw [spanP_true] at h2
    by_cases ho : s.2.2 = true
    · exact ev_pos ho (spanP_ref s _ L j _ r h2 _ (by rw [ho]; rfl) _ hw)
    · have ho : s.2.2 = false := by simpa using ho
      exact ev_neg (by rw [ho]; simp) (spanP_ref s _ L j _ r h2 _ (by rw [ho]; rfl) _ hw)
theorem rspan_out (L : List S109) (hL : L.length < 9223372036854775807) (hE : ∀ c ∈ L, c.f1.length < 9223372036854775807) (d : Nat) : ∀ (i : Nat) (s : Int × Int × Bool), L.length - i = d → i ≤ L.length →
    Ev (fun k => marigraphref09_Span.l0 k L s.1 s.2.1 s.2.2 (i : Int)) (spanL s ((L.drop i).flatMap (·.f1))) := by
  induction d with
  | zero =>
    intro i s hd hi
    refine ev_succ (fun k => by rw [marigraphref09_Span.l0]) (ev_neg (by omega) ?_)
    rw [List.drop_eq_nil_of_le (by omega)]
    exact Ev.now _
  | succ d ih =>
    intro i s hd hi
    have hlt : i < L.length := by omega
    have hw : wrap64 ((i : Int) + 1) = ((i + 1 : Nat) : Int) := by rw [w64 (by omega) (by omega)]; omega
    have hdr : L.drop i = L[i] :: L.drop (i + 1) := List.drop_eq_getElem_cons hlt
    have hc : L[i].f1.length < 9223372036854775807 := hE _ (List.getElem_mem hlt)
    refine ev_succ (fun k => by rw [marigraphref09_Span.l0]) (ev_pos (by omega) ?_)
    have h := ih (i + 1) (spanL s L[i].f1) (by omega) (by omega)
    have e : spanL (spanL s L[i].f1) ((L.drop (i + 1)).flatMap (·.f1)) = spanL s ((L.drop i).flatMap (·.f1)) := by
      rw [hdr, List.flatMap_cons]
      simp [spanL, List.foldl_append]
    rw [e] at h
    exact rspan_in L i hlt hc _ _ 0 s rfl (Nat.zero_le _) (by rw [List.drop_zero, hw]; exact h)
/-! ### The reference's Range -/
theorem within_from (l : List S52) (fr tl : Int) (hl : l.length < 8796093022208) (d : Nat) : ∀ i : Nat, l.length - i = d → i ≤ l.length →
    Ev (fun k => marigraphref09_Within.l0 k l fr tl ((l.take i).filter (inR fr tl)) (i : Int)) (l.filter (inR fr tl)) := by
  induction d with
  | zero =>
    intro i hd hi
    refine ev_succ (fun k => by rw [marigraphref09_Within.l0]) (ev_neg (by omega) ?_)
    rw [List.take_of_length_le (by omega)]
    exact Ev.now _
  | succ d ih =>
    intro i hd hi
    have hlt : i < l.length := by omega
    have hw : wrap64 ((i : Int) + 1) = ((i + 1 : Nat) : Int) := by rw [w64 (by omega) (by omega)]; omega
    have h := ih (i + 1) (by omega) (by omega)
    rw [List.take_succ_eq_append_getElem hlt, List.filter_append] at h
    have hfl : ((l.take i).filter (inR fr tl)).length ≤ i := Nat.le_trans (List.length_filter_le _ _) (by rw [List.length_take]; omega)
    refine ev_succ (fun k => by rw [marigraphref09_Within.l0]) (ev_pos (by omega) (ev_pos (by omega) ?_))
    rw [rdp52 l i hlt, hw]
    by_cases h1 : l[i].f0 ≥ fr
    · by_cases h2 : l[i].f0 ≤ tl
      · have hp : inR fr tl l[i] = true := by unfold inR; rw [decide_eq_false (by omega), decide_eq_false (by omega)]; rfl
        refine ev_pos h1 (ev_pos h2 (ev_pos (by omega) ?_))
        simpa [hp] using h
      · have hp : inR fr tl l[i] = false := by unfold inR; rw [decide_eq_true (show tl < l[i].f0 by omega)]; simp
        refine ev_pos h1 (ev_neg h2 ?_)
        simpa [hp] using h
    · have hp : inR fr tl l[i] = false := by unfold inR; rw [decide_eq_true (show l[i].f0 < fr by omega)]; rfl
      refine ev_neg h1 ?_
      simpa [hp] using h
/-! ### The reference's Cut -/
/-! ### Same -/
theorem same4_ev (l : List S52) (hl : l.length < 9223372036854775807) : Ev (fun k => marigraphref04_Same.f k l l) true := by
  have go : ∀ (d i : Nat), l.length - i = d → i ≤ l.length → Ev (fun k => marigraphref04_Same.l0 k l l (i : Int)) true := by
    intro d
    induction d with
    | zero =>
      intro i hd hi
      exact ev_stop fun k => by rw [marigraphref04_Same.l0, if_neg (by omega)]
    | succ d ih =>
      intro i hd hi
      refine ev_succ (fun k => by rw [marigraphref04_Same.l0]) ?_
      refine ev_pos (by omega) (ev_pos (by omega) (ev_pos (by omega) (ev_neg (by simp) ?_)))
      rw [w64 (by omega) (by omega)]
      exact ih (i + 1) (by omega) (by omega)
  unfold marigraphref04_Same.f
  exact ev_pos rfl (go _ 0 rfl (Nat.zero_le _))
theorem same9_ev (l : List S109) (hl : l.length < 9223372036854775807) (hE : ∀ c ∈ l, c.f1.length < 9223372036854775807) (hS : ∀ c ∈ l, Ev (fun k => marigraphref04_Same.f k c.f1 c.f1) true) : Ev (fun k => marigraphref09_Same.f k l l) true := by
  have go : ∀ (d i : Nat), l.length - i = d → i ≤ l.length → Ev (fun k => marigraphref09_Same.l0 k l l (i : Int)) true := by
    intro d
    induction d with
    | zero =>
      intro i hd hi
      exact ev_stop fun k => by rw [marigraphref09_Same.l0, if_neg (by omega)]
    | succ d ih =>
      intro i hd hi
      have hlt : i < l.length := by omega
      refine ev_succ (fun k => by rw [marigraphref09_Same.l0]) ?_
      refine ev_pos (by omega) (ev_pos (by omega) (ev_pos (by omega) (ev_pos rfl ?_)))
      rw [rdc109 l i hlt]
      refine ev_bind (hS _ (List.getElem_mem hlt)) (ev_pos rfl ?_)
      rw [w64 (by omega) (by omega)]
      exact ih (i + 1) (by omega) (by omega)
  unfold marigraphref09_Same.f
  exact ev_pos rfl (go _ 0 rfl (Nat.zero_le _))
end Go.Proofs.Ythkpnnbjcendcaa.Pure
end
section
/- Blocks taken, cut, turned: plain laws for the statements. -/
set_option linter.unusedVariables false
set_option linter.unusedSimpArgs false
open Go.RowKit Go.Proofs.Ythkpnnbjcendcaa.X Go.Proofs.Ythkpnnbjcendcaa.Pl Go.Proofs.YthkpnnbjcendcaaW.PrintWords Go.Proofs.YthkpnnbjcendcaaW.PrintLast Go.Proofs.YthkpnnbjcendcaaW.PrintMore
namespace Go.Proofs.Ythkpnnbjcendcaa.Pure
theorem btake_size (b : List Int) : (btakeR b).1.length ≤ 200 ∧ (∀ c ∈ (btakeR b).1, c.f1.length ≤ 1024) ∧ fitL (btakeR b).1 := by
  rcases btake_two b with h | ⟨_, h⟩
  · obtain ⟨h1, h2⟩ := btake_ok h
    have h3 := rightC_all (bput_right h2).1
    exact ⟨h3.2.2, fun c hc => (h3.1 c hc).n1, h1⟩
  · rw [h]
    exact ⟨Nat.zero_le _, (fun c hc => by cases hc), (fun c hc => by cases hc)⟩
theorem take_f {b : List Int} (h : b.length < 1000000) (hb : Byt b) : block_Take.f b = some (btakeR b) := if_pos ⟨h, hb⟩
theorem bput_f {x : List S109} (hl : x.length < 1000000) (hE : ∀ c ∈ x, c.f1.length ≤ 1100) (hf : fitL x) : block_Put.f x = some (bputR x) := by
  have hfc : fitsC x = true := by
    unfold fitsC
    rw [Bool.and_eq_true, List.all_eq_true]
    exact ⟨decide_eq_true (by omega), fun c hc => decide_eq_true (by have := hE c hc; omega)⟩
  exact if_pos ⟨hfc, List.all_eq_true.2 fun c hc => (fitB_iff _).2 (hf c hc)⟩
theorem same_btake (b : List Int) : Ev (fun k => marigraphref09_Same.f k (btakeR b).1 (btakeR b).1) true := by
  obtain ⟨h1, h2, _⟩ := btake_size b
  exact same9_ev _ (by omega) (fun c hc => by have := h2 c hc; omega) (fun c hc => same4_ev _ (by have := h2 c hc; omega))
/-! ### How long a block is -/
theorem putB_few (l : List S52) (h : l.length ≤ 1024) : (putB l).length ≤ 17 * l.length + 10 := by
  have h1 := marksP_length l 0 0 0 0
  have h2 := (varint_len64 (n := l.length) (by omega)).2
  unfold putB
  rw [List.length_append, pack_length]
  omega
theorem chB_few {c : S109} (h : OkC c) : (chB c).length ≤ 17 * c.f1.length + 30 := by
  have h1 := (varint_len64 (n := c.f0.toNat) (by have := h.id1; omega)).2
  have h4 := h.n1
  have h3 := putB_few c.f1 h4
  have h2 := (varint_len64 (n := (putB c.f1).length) (by omega)).2
  unfold chB
  rw [List.length_append, List.length_append]
  omega
theorem flat_few : ∀ (l : List S109), (∀ c ∈ l, OkC c) → (l.flatMap chB).length ≤ 17 * (l.flatMap (·.f1)).length + 30 * l.length
  | [], _ => by simp
  | c :: l, h => by
    rw [List.flatMap_cons, List.flatMap_cons, List.length_append, List.length_append, List.length_cons]
    have h1 := chB_few (h c List.mem_cons_self)
    have h2 := flat_few l (fun d hd => h d (List.mem_cons_of_mem _ hd))
    omega
theorem body_few {l : List S109} (h : rightC l = true) (hp : (l.flatMap (·.f1)).length ≤ 6000) : 1 ≤ (bodyC l).length ∧ (bodyC l).length ≤ 200000 := by
  obtain ⟨h1, h2, h3⟩ := rightC_all h
  have := flat_few l h1
  have h4 := varint_len64 (n := l.length) (by omega)
  unfold bodyC
  rw [List.length_append]
  omega
theorem seal_len {y : List Int} (h : y.length ≤ 200000) : (sealL y).length = (varint y.length).length + y.length + 4 ∧ 1 ≤ (varint y.length).length ∧ (varint y.length).length ≤ 3 := by
  have h1 := Sc.varint_le 2 y.length (Nat.lt_of_le_of_lt h (by decide))
  unfold sealL
  rw [List.length_append, List.length_append, foot_len]
  exact ⟨rfl, h1.1, by omega⟩
theorem seal_byt {y : List Int} (hy : Byt y) : Byt (sealL y) := fun x hx => by
  unfold sealL at hx
  rcases List.mem_append.1 hx with h | h
  · rcases List.mem_append.1 h with h | h
    · exact varint_byt _ x h
    · exact hy x h
  · exact footL_byt _ x h
theorem bput_few {l : List S109} (hp : (l.flatMap (·.f1)).length ≤ 6000) : (bputR l).1.length ≤ 200010 ∧ Byt (bputR l).1 := by
  by_cases h : rightC l = true
  · rw [bput_of h]
    have h1 := body_few h hp
    have h2 := seal_len h1.2
    exact ⟨by show (sealL (bodyC l)).length ≤ _; omega, seal_byt (bodyC_byt l)⟩
  · have e : bputR l = ([], 1) := by unfold bputR; rw [if_neg h]
    rw [e]
    exact ⟨Nat.zero_le _, fun x hx => by cases hx⟩
/-! ### Cut, longer, turned -/
theorem wf_u8 {x : Int} (h : (Lit.int .u8 x).wf = true) : 0 ≤ x ∧ x ≤ 255 := by simpa [Lit.wf, IntKind.min, IntKind.max, IntKind.signed, IntKind.bits] using h
end Go.Proofs.Ythkpnnbjcendcaa.Pure
end
section
/- BlockBack as a plain statement: what was put is taken, and what is taken was put so. -/
set_option linter.unusedVariables false
namespace Go.Proofs.Ythkpnnbjcendcaa.Pure
open Go.RowKit Go.Proofs.Ythkpnnbjcendcaa.X Go.Proofs.Ythkpnnbjcendcaa.Pl Go.Proofs.YthkpnnbjcendcaaW.PrintWords Go.Proofs.YthkpnnbjcendcaaW.PrintLast Go.Proofs.YthkpnnbjcendcaaW.PrintMore

theorem back_tail (l1 : List Int) (hw : Byt l1) : Ev (fun k => marigraphlaw09_BlockBack.j0 k l1 true false) true := by
  refine ev_succ (fun k => by rw [marigraphlaw09_BlockBack.j0]) (ev_neg (by simp) ?_)
  have hmn := @mn_le (l1.length : Int) 3000
  refine ev_pos (by rcases hmn.2.2 with e | e <;> omega) (ev_pos (by omega) ?_)
  generalize hq : l1.take (mn (l1.length : Int) 3000).toNat = q
  have hql : q.length ≤ 3000 := by
    rw [← hq, List.length_take]
    omega
  have hqb : Byt q := fun x hx => by
    rw [← hq] at hx
    exact hw x (List.mem_of_mem_take hx)
  clear hq hmn
  obtain ⟨s1, s2, s3⟩ := btake_size q
  refine ev_const (take_f (by omega) hqb) (ev_const (bput_f (by omega) (fun c hc => by have := s2 c hc; omega) s3) (ev_pos rfl ?_))
  by_cases h : (btakeR q).2 = 0
  · have hb := (btake_ok h).2
    exact ev_pos h (ev_pos (by rw [hb]) (ev_pos (by rw [hb]) (Ev.now _)))
  · rcases btake_two q with h2 | ⟨h2, h3⟩
    · exact absurd h2 h
    · exact ev_neg h (ev_pos h2 (ev_eq (Ev.now _) (by rw [h3]; rfl)))
theorem BlockBack : marigraphlaw09_BlockBack.Pure := by
  intro l0 l1 h0 hw h1 hw1
  refine Ev.rounds ?_
  unfold marigraphlaw09_BlockBack.f
  obtain ⟨n, hf, hn, hp, ht⟩ := few_ev l0 (by omega) (fun c hc => by have := (hw c hc).2.1; omega)
  have hfit : fitL (l0.take n) := fun c hc z hz => by
    have := (hw c (List.mem_of_mem_take hc)).2.2 z hz
    exact ⟨wf64 this.1, wf64 this.2⟩
  refine ev_bind shown9_ev (ev_bind hf ?_)
  generalize l0.take n = x at *
  have tail := back_tail l1 (fun y hy => wf_u8 (hw1 y hy))
  obtain ⟨hl, hb⟩ := bput_few ht
  refine ev_const (bput_f (by omega) hp hfit) (ev_const (take_f (by omega) hb) (ev_bind (bright_ev x (by omega) (fun c hc => by have := hp c hc; omega)) ?_))
  by_cases hr : rightC x = true
  · have e := bput_of hr
    have e2 : btakeR (bputR x).1 = (x, 0) := btake_put hfit (by rw [e])
    have hs := same_btake (bputR x).1
    rw [e2] at hs
    rw [e2]
    refine ev_neg (by rw [e, hr]; simp) (ev_pos (by rw [e]) (ev_pos rfl (ev_bind hs tail)))
  · have e : bputR x = ([], 1) := by unfold bputR; rw [if_neg hr]
    refine ev_neg (by rw [e, Bool.eq_false_iff.2 hr]; simp) (ev_neg (by rw [e]; simp) tail)
end Go.Proofs.Ythkpnnbjcendcaa.Pure
end
