/- What the law leans on, part 11: X107. -/
import Derived.Test.YthkpnnbjcendcaaQf10
section
-- By xprint.py, out of the translation's own print. Lean checks it.
namespace Go.Proofs.Ythkpnnbjcendcaa.X
open Go.RowKit Go.Proofs.YthkpnnbjcendcaaW.PrintWords Go.Proofs.YthkpnnbjcendcaaW.PrintLast Go.Proofs.YthkpnnbjcendcaaW.PrintMore
attribute [local go_sem] max2_int min2_int max_two min_two max_three min_three max_four min_four   -- for this text's walks alone
set_option linter.unusedVariables false
set_option linter.unusedSimpArgs false

/-! ### marigraphlaw09_BlockTurned: function 19 -/
mutual
noncomputable def marigraphlaw09_BlockTurned.j0 : Nat → Int → Int → List Int → Bool → List Int → Int → Bool → Option (Bool)
  | 0, _, _, _, _, _, _, _ => none
  | k + 1, x1, x2, x3, x9, x10, x11, x34 => if x34 = true then (if x9 = true then (some (x11 == 1)) else (some false)) else (if (x10.length : Int) = 0 then (none) else (if 0 ≤ (Int.tmod (wrap64 (x1)) (x10.length : Int)) then (if (Int.tmod (wrap64 (x1)) (x10.length : Int)) ≤ (x10.length : Int) then ((block_Take.f (x10.take ((Int.tmod (wrap64 (x1)) (x10.length : Int)) : Int).toNat)).bind fun bt455 => ((some (([] : List Int) : List Int)).bind fun y459 => (if y459.length + x10.length < 140737488355328 then ((some (y459 ++ x10 : List Int)).bind fun y462 => (if 0 ≤ (mn (x3.length : Int) 20) then (if (mn (x3.length : Int) 20) ≤ (x3.length : Int) then (if y462.length + (x3.take ((mn (x3.length : Int) 20) : Int).toNat).length < 140737488355328 then ((block_Take.f (y462 ++ (x3.take ((mn (x3.length : Int) 20) : Int).toNat))).bind fun bt469 => (if bt455.2 = 90 then (if (bt455.1.length : Int) = 0 then (if ((bt469.2 == 0) != ((x3.length : Int) == 0)) = true then (marigraphlaw09_BlockTurned.j1 k x2 x9 x10 (Int.tmod (wrap64 (x1)) (x10.length : Int)) true) else (if bt469.2 = 0 then (marigraphlaw09_BlockTurned.j1 k x2 x9 x10 (Int.tmod (wrap64 (x1)) (x10.length : Int)) false) else (marigraphlaw09_BlockTurned.j1 k x2 x9 x10 (Int.tmod (wrap64 (x1)) (x10.length : Int)) ((bt469.1.length : Int) != 0)))) else (marigraphlaw09_BlockTurned.j1 k x2 x9 x10 (Int.tmod (wrap64 (x1)) (x10.length : Int)) true)) else (marigraphlaw09_BlockTurned.j1 k x2 x9 x10 (Int.tmod (wrap64 (x1)) (x10.length : Int)) true))) else (none)) else (none)) else (none))) else (none)))) else (none)) else (none)))
noncomputable def marigraphlaw09_BlockTurned.j1 : Nat → Int → Bool → List Int → Int → Bool → Option (Bool)
  | 0, _, _, _, _, _ => none
  | k + 1, x2, x9, x10, x12, x89 => if x89 = true then (some false) else ((some (([] : List Int) : List Int)).bind fun y473 => (if y473.length + x10.length < 140737488355328 then ((some (y473 ++ x10 : List Int)).bind fun y476 => (if x12 < 3 then (if (wrap64 ((wrap64 ((x10.length : Int) - 3)) + 1)) = 0 then (none) else (if (wrap64 (x12 + ((3 : Int) % (wrap64 ((wrap64 ((x10.length : Int) - 3)) + 1))))) < 3 then (some x9) else (if x2 = 0 then (some x9) else (if 0 ≤ (wrap64 (x12 + ((3 : Int) % (wrap64 ((wrap64 ((x10.length : Int) - 3)) + 1))))) then (if (wrap64 (x12 + ((3 : Int) % (wrap64 ((wrap64 ((x10.length : Int) - 3)) + 1))))) < (y476.length : Int) then ((block_Take.f (y476.set ((wrap64 (x12 + ((3 : Int) % (wrap64 ((wrap64 ((x10.length : Int) - 3)) + 1))))) : Int).toNat (Go.bits .xor .u8 (rd y476 (wrap64 (x12 + ((3 : Int) % (wrap64 ((wrap64 ((x10.length : Int) - 3)) + 1)))))) x2))).bind fun bt481 => (if x9 = true then (if bt481.2 = 90 then (some ((bt481.1.length : Int) == 0)) else (some false)) else (some false))) else (none)) else (none))))) else (if x2 = 0 then (some x9) else (if 0 ≤ x12 then (if x12 < (y476.length : Int) then ((block_Take.f (y476.set (x12 : Int).toNat (Go.bits .xor .u8 (rd y476 x12) x2))).bind fun bt487 => (if x9 = true then (if bt487.2 = 90 then (some ((bt487.1.length : Int) == 0)) else (some false)) else (some false))) else (none)) else (none))))) else (none)))
end
noncomputable def marigraphlaw09_BlockTurned.f (k : Nat) (l0 : List (S109)) (a1 : Int) (a2 : Int) (l3 : List Int) : Option (Bool) := (marigraphlaw09_shown.f k).bind fun t442 => ((marigraphlaw09_few.f k l0).bind fun t443 => ((block_Put.f t443).bind fun bt446 => (if bt446.2 = 0 then (marigraphlaw09_BlockTurned.j0 k a1 a2 l3 t442 bt446.1 bt446.2 (decide ((bt446.1.length : Int) < 3))) else (marigraphlaw09_BlockTurned.j0 k a1 a2 l3 t442 bt446.1 bt446.2 true))))
noncomputable def marigraphlaw09_BlockTurned.T7 : Bool × List (List Nat × List Nat) := (true, [([], []), ([], []), ([0, 1], [0, 1]), ([], []), ([], []), ([4], [4]), ([5], [5]), ([3, 6], [3, 6]), ([2, 7, 2], [2, 7]), ([8, 8, 0, 1, 2, 3, 4, 5, 6, 7, 8], [8])])
noncomputable def marigraphlaw09_BlockTurned.B7 : List Nat := [0, 0, 3, 0, 0, 16, 48, 120, 255, 511]
theorem marigraphlaw09_BlockTurned.tab7 : rtab .any (opsOf Try.f19 7) = marigraphlaw09_BlockTurned.T7 := by kernel_rfl
theorem marigraphlaw09_BlockTurned.bits7 : waitsOk marigraphlaw09_BlockTurned.T7.2 marigraphlaw09_BlockTurned.B7 = true := by kernel_rfl
set_option maxHeartbeats 8000000 in
set_option maxRecDepth 100000 in
theorem marigraphlaw09_BlockTurned.calls (k : Nat) (A0 : Option Addr) (c0 : Nat) (l0 : List (S109)) (a1 : Int) (a2 : Int) (A3 : Option Addr) (c3 : Nat) (l3 : List Int) (r : Bool) (w : World) (hr0 : Kd.C k109 w A0 l0.length l0) (hc0 : l0.length ≤ c0) (hr3 : Kd.C (Kd.int .u8) w A3 l3.length l3) (hc3 : l3.length ≤ c3) (h : marigraphlaw09_BlockTurned.f k l0 a1 a2 l3 = some r) :
    Calls Try.prog 19 #[.slice A0 l0.length c0, .int .u16 a1, .int .u8 a2, .slice A3 l3.length c3] w fun e w' => e = .returned (.bool r) ∧ Below w.heap.size w w' := by
  have HR0 := Aside0.mk hr0
  have HC0 := Aside0.mk hc0
  clear hr0 hc0
  have HR3 := Aside0.mk hr3
  have HC3 := Aside0.mk hc3
  clear hr3 hc3
  have HB := Aside0.mk (Below.refl w.heap.size w)
  have H : ((marigraphlaw09_shown.f k).bind fun t442 => ((marigraphlaw09_few.f k l0).bind fun t443 => ((block_Put.f t443).bind fun bt446 => (if bt446.2 = 0 then (marigraphlaw09_BlockTurned.j0 k a1 a2 l3 t442 bt446.1 bt446.2 (decide ((bt446.1.length : Int) < 3))) else (marigraphlaw09_BlockTurned.j0 k a1 a2 l3 t442 bt446.1 bt446.2 true))))) = some r := h
  clear h
  replace H := Option.bind_eq_some_iff.mp H
  obtain ⟨t442, A50, H⟩ := H
  replace H : ((marigraphlaw09_few.f k l0).bind fun t443 => ((block_Put.f t443).bind fun bt446 => (if bt446.2 = 0 then (marigraphlaw09_BlockTurned.j0 k a1 a2 l3 t442 bt446.1 bt446.2 (decide ((bt446.1.length : Int) < 3))) else (marigraphlaw09_BlockTurned.j0 k a1 a2 l3 t442 bt446.1 bt446.2 true)))) = some r := H
  have A5 := Aside0.mk A50
  clear A50
  replace H := Option.bind_eq_some_iff.mp H
  obtain ⟨t443, A60, H⟩ := H
  replace H : ((block_Put.f t443).bind fun bt446 => (if bt446.2 = 0 then (marigraphlaw09_BlockTurned.j0 k a1 a2 l3 t442 bt446.1 bt446.2 (decide ((bt446.1.length : Int) < 3))) else (marigraphlaw09_BlockTurned.j0 k a1 a2 l3 t442 bt446.1 bt446.2 true))) = some r := H
  have A6 := Aside0.mk A60
  clear A60
  replace H := Option.bind_eq_some_iff.mp H
  obtain ⟨⟨t446, t447⟩, A70, H⟩ := H
  replace H : (if t447 = 0 then (marigraphlaw09_BlockTurned.j0 k a1 a2 l3 t442 t446 t447 (decide ((t446.length : Int) < 3))) else (marigraphlaw09_BlockTurned.j0 k a1 a2 l3 t442 t446 t447 true)) = some r := H
  have A7 := Aside0.mk A70
  clear A70
  have HC8 := Aside0.mk H
  clear H
  go_enter Try.func19, Try.ntmps19
  go_upto_region 3 with (first | ((with_reducible refine gate_callee (f := 47) rfl ?_); refine goesL_ (some 21) rfl rfl Try.func47 (by kernel_rfl) rfl #[] rfl (by (try simp only [List.map_toArray, List.map_cons, List.map_nil]); first | done | rfl | (simp only [List.length_drop, List.length_take]; rfl)) ?_; (with_reducible refine (marigraphlaw09_shown.calls k  t442 _ A5.out).mono ?_); rintro e w9 ⟨rfl, hb⟩; refine ⟨_, rfl, ?_⟩; have n0_ := Aside0.mk (below_step (by repeat (first | (with_reducible first | exact HB.out | apply below_alloc | apply pw_below_drewN | apply below_drew1) | exact HB.out)) hb); clear HB; have HB := n0_; clear n0_; (try clear hb); (try clear hb2); (try clear hk); (try clear hi)) | ((with_reducible refine gate_callee (f := 44) rfl ?_); refine goesL_ (some 24) rfl rfl Try.func44 (by kernel_rfl) rfl #[.slice A0 l0.length c0] rfl (by (try simp only [List.map_toArray, List.map_cons, List.map_nil]); first | done | rfl | (simp only [List.length_drop, List.length_take]; rfl)) ?_; (with_reducible refine (marigraphlaw09_few.calls k (fun k_ => k_ < w.heap.size) _ _ l0 t443 _ ?side1 A6.out).mono ?_); (case side1 => exact Kd.V_mk HC0.out (Kd.F_below (Kd.C_F k109_heap HR0.out) (by repeat (first | (with_reducible first | exact HB.out | apply below_alloc | apply pw_below_drewN | apply below_drew1) | exact HB.out)))); rintro e w10 ⟨v444, rfl, ho0, hb⟩; refine ⟨_, rfl, ?_⟩; have n0_ := Aside0.mk (Kd.N_lower (Kd.N_mono (ok' := fun k_ => True) ho0 (fun k_ hk_ => trivial)) (below_size (by repeat (first | (with_reducible first | exact HB.out | apply below_alloc | apply pw_below_drewN | apply below_drew1) | exact HB.out)))); have n1_ := Aside0.mk (below_step (by repeat (first | (with_reducible first | exact HB.out | apply below_alloc | apply pw_below_drewN | apply below_drew1) | exact HB.out)) hb); clear HB; have HO445 := n0_; have HB := n1_; clear n0_ n1_; (try clear hb); (try clear hb2); (try clear hk); (try clear hi); (try clear ho0); obtain ⟨Ao11, co11, eo11⟩ := Kd.N_slice HO445.out; subst eo11) | ((with_reducible refine gate_callee (f := 53) rfl ?_); refine goesL_ (some 25) rfl rfl Try.func53 (by kernel_rfl) rfl #[.slice Ao11 t443.length co11] rfl (by (try simp only [List.map_toArray, List.map_cons, List.map_nil]); first | done | rfl | (simp only [List.length_drop, List.length_take]; rfl)) ?_; (with_reducible refine (block_Put.calls _ _ t443 t446 t447 _ ?side1 ?side2 A7.out).mono ?_); (case side1 => repeat (first | exact (Kd.N_reads' HO445.out).2.2 | (with_reducible refine Kd.C_alloc ?_ _) | (with_reducible refine Kd.C_drewN ?_ _) | (with_reducible refine Kd.C_drew ?_))); (case side2 => exact (Kd.N_reads' HO445.out).2.1); rintro e w12 ⟨v448, rfl, ho0, hb⟩; refine ⟨_, rfl, ?_⟩; have n0_ := Aside0.mk (Kd.N_elder' (by (with_reducible repeat (first | apply Kd.N_alloc | apply Kd.N_drewN | apply Kd.N_drew)); exact HO445.out) (Kd.R_base ho0) hb); have n1_ := Aside0.mk (Kd.R_lower ho0 (below_size (by repeat (first | (with_reducible first | exact HB.out | apply below_alloc | apply pw_below_drewN | apply below_drew1) | exact HB.out)))); have n2_ := Aside0.mk (below_step (by repeat (first | (with_reducible first | exact HB.out | apply below_alloc | apply pw_below_drewN | apply below_drew1) | exact HB.out)) hb); clear HO445; clear HB; have HO445 := n0_; have HO449 := n1_; have HB := n2_; clear n0_ n1_ n2_; (try clear hb); (try clear hb2); (try clear hk); (try clear hi); (try clear ho0)))
  (try simp only [Act.put, List.setIfInBounds_toArray, List.set_cons_zero, List.set_cons_succ])
  go_cut [34] (fun v34 wc => ∃ (kq : Nat) (x34_7 : Bool), v34 = .bool x34_7 ∧ Aside0 (marigraphlaw09_BlockTurned.j0 kq a1 a2 l3 t442 t446 t447 x34_7 = some r) ∧ Aside0 (kq ≤ k) ∧ Aside0 (Kd.R (Kd.int .u8) 5 wc w.heap.size (fun _ => True) v448 t446) ∧ Aside0 (Below w.heap.size w wc))
  case first =>
    have H := HC8.out
    clear HC8
    by_cases c13 : t447 = 0
    · rw [if_pos c13] at H
      have c13b0 : (t447 == 0) = true := beq_iff_eq.mpr c13
      have c13b1 : (t447 != 0) = false := bne_eq_false_iff_eq.mpr c13
      clear c13
      (first | rw [c13b0] | (simp only [i64_w, i32_w]; rw [c13b0]) | skip)
      have H' := Aside0.mk H
      clear H
      obtain ⟨Ao14, co14, eo14⟩ := Kd.R_slice HO449.out
      subst eo14
      go_wp2
      go_meet
      case rel => exact ⟨_, (decide ((t446.length : Int) < 3)), (by first | rfl | (simp; done) | (simp [*]; done) | (simp <;> grind)), H', ⟨by first | omega | exact Nat.le_refl _⟩, ⟨by (with_reducible repeat (first | apply Kd.R_alloc | apply Kd.R_drewN | apply Kd.R_drew)); exact HO449.out⟩, ⟨by repeat (first | (with_reducible first | exact HB.out | apply below_alloc | apply pw_below_drewN | apply below_drew1) | exact HB.out)⟩⟩
    · rw [if_neg c13] at H
      have c13b0 : (t447 == 0) = false := beq_eq_false_iff_ne.mpr c13
      have c13b1 : (t447 != 0) = true := bne_iff_ne.mpr c13
      (first | rw [c13b0] | (simp only [i64_w, i32_w]; rw [c13b0]) | skip)
      have H' := Aside0.mk H
      clear H
      go_wp2
      go_meet
      case rel => exact ⟨_, (true), (by first | rfl | (simp; done) | (simp [*]; done) | (simp <;> grind)), H', ⟨by first | omega | exact Nat.le_refl _⟩, ⟨by (with_reducible repeat (first | apply Kd.R_alloc | apply Kd.R_drewN | apply Kd.R_drew)); exact HO449.out⟩, ⟨by repeat (first | (with_reducible first | exact HB.out | apply below_alloc | apply pw_below_drewN | apply below_drew1) | exact HB.out)⟩⟩
  case rest =>
    clear HC8
    try clear c1
    try clear p2
    try clear c3
    try clear c4
    try clear c5
    try clear c13
    try clear c13b0
    try clear c13b1
    obtain ⟨kq, x34_7, rfl, HA, HJ7, HO_10, HB⟩ := hcut
    cases kq with
    | zero => exact absurd HA.out (by simp [marigraphlaw09_BlockTurned.j0])
    | succ kj7 =>
      have H := HA.out
      clear HA
      simp only [marigraphlaw09_BlockTurned.j0] at H
      by_cases c15 : x34_7 = true
      · subst c15
        have H1 : (if t442 = true then (some (t447 == 1)) else (some false)) = some r := by rw [if_pos rfl] at H; exact H
        clear H
        have H := H1
        clear H1
        by_cases c16 : t442 = true
        · subst c16
          have H1 : (some (t447 == 1)) = some r := by rw [if_pos rfl] at H; exact H
          clear H
          have H := H1
          clear H1
          obtain rfl := Option.some.inj H
          go_wp2
          go_ret
          exact ⟨by first | rfl | (simp [errW_none, errW_some] <;> rfl) | (simp [*, errW_none, errW_some] <;> rfl), by repeat (first | (with_reducible first | exact HB.out | apply below_alloc | apply pw_below_drewN | apply below_drew1) | exact HB.out)⟩
        · replace c16 := Bool.eq_false_iff.mpr c16
          subst c16
          have H1 : (some false) = some r := by rw [if_neg (show ¬ (false = true) by decide)] at H; exact H
          clear H
          have H := H1
          clear H1
          obtain rfl := Option.some.inj H
          go_wp2
          go_ret
          exact ⟨by first | rfl | (simp [errW_none, errW_some] <;> rfl) | (simp [*, errW_none, errW_some] <;> rfl), by repeat (first | (with_reducible first | exact HB.out | apply below_alloc | apply pw_below_drewN | apply below_drew1) | exact HB.out)⟩
      · replace c15 := Bool.eq_false_iff.mpr c15
        subst c15
        have H1 : (if (t446.length : Int) = 0 then (none) else (if 0 ≤ (Int.tmod (wrap64 (a1)) (t446.length : Int)) then (if (Int.tmod (wrap64 (a1)) (t446.length : Int)) ≤ (t446.length : Int) then ((block_Take.f (t446.take ((Int.tmod (wrap64 (a1)) (t446.length : Int)) : Int).toNat)).bind fun bt455 => ((some (([] : List Int) : List Int)).bind fun y459 => (if y459.length + t446.length < 140737488355328 then ((some (y459 ++ t446 : List Int)).bind fun y462 => (if 0 ≤ (mn (l3.length : Int) 20) then (if (mn (l3.length : Int) 20) ≤ (l3.length : Int) then (if y462.length + (l3.take ((mn (l3.length : Int) 20) : Int).toNat).length < 140737488355328 then ((block_Take.f (y462 ++ (l3.take ((mn (l3.length : Int) 20) : Int).toNat))).bind fun bt469 => (if bt455.2 = 90 then (if (bt455.1.length : Int) = 0 then (if ((bt469.2 == 0) != ((l3.length : Int) == 0)) = true then (marigraphlaw09_BlockTurned.j1 kj7 a2 t442 t446 (Int.tmod (wrap64 (a1)) (t446.length : Int)) true) else (if bt469.2 = 0 then (marigraphlaw09_BlockTurned.j1 kj7 a2 t442 t446 (Int.tmod (wrap64 (a1)) (t446.length : Int)) false) else (marigraphlaw09_BlockTurned.j1 kj7 a2 t442 t446 (Int.tmod (wrap64 (a1)) (t446.length : Int)) ((bt469.1.length : Int) != 0)))) else (marigraphlaw09_BlockTurned.j1 kj7 a2 t442 t446 (Int.tmod (wrap64 (a1)) (t446.length : Int)) true)) else (marigraphlaw09_BlockTurned.j1 kj7 a2 t442 t446 (Int.tmod (wrap64 (a1)) (t446.length : Int)) true))) else (none)) else (none)) else (none))) else (none)))) else (none)) else (none))) = some r := by rw [if_neg (show ¬ (false = true) by decide)] at H; exact H
        clear H
        have H := H1
        clear H1
        by_cases c17 : (t446.length : Int) = 0
        · rw [if_pos c17] at H
          exact absurd H (by simp)
        · rw [if_neg c17] at H
          have c17b0 : ((t446.length : Int) == 0) = false := beq_eq_false_iff_ne.mpr c17
          have c17b1 : ((t446.length : Int) != 0) = true := bne_iff_ne.mpr c17
          have c17b2 : ¬ (t446 = []) := fun h_ => c17 (by rw [h_]; rfl)
          obtain ⟨ji18, hji18⟩ : ∃ j_ : Int, (Int.tmod (wrap64 (a1)) (t446.length : Int)) = j_ := ⟨_, rfl⟩
          replace H : (if 0 ≤ (ji18) then (if (ji18) ≤ (t446.length : Int) then ((block_Take.f (t446.take ((ji18) : Int).toNat)).bind fun bt455 => ((some (([] : List Int) : List Int)).bind fun y459 => (if y459.length + t446.length < 140737488355328 then ((some (y459 ++ t446 : List Int)).bind fun y462 => (if 0 ≤ (mn (l3.length : Int) 20) then (if (mn (l3.length : Int) 20) ≤ (l3.length : Int) then (if y462.length + (l3.take ((mn (l3.length : Int) 20) : Int).toNat).length < 140737488355328 then ((block_Take.f (y462 ++ (l3.take ((mn (l3.length : Int) 20) : Int).toNat))).bind fun bt469 => (if bt455.2 = 90 then (if (bt455.1.length : Int) = 0 then (if ((bt469.2 == 0) != ((l3.length : Int) == 0)) = true then (marigraphlaw09_BlockTurned.j1 kj7 a2 t442 t446 ji18 true) else (if bt469.2 = 0 then (marigraphlaw09_BlockTurned.j1 kj7 a2 t442 t446 ji18 false) else (marigraphlaw09_BlockTurned.j1 kj7 a2 t442 t446 ji18 ((bt469.1.length : Int) != 0)))) else (marigraphlaw09_BlockTurned.j1 kj7 a2 t442 t446 ji18 true)) else (marigraphlaw09_BlockTurned.j1 kj7 a2 t442 t446 ji18 true))) else (none)) else (none)) else (none))) else (none)))) else (none)) else (none)) = some r := by first | (rw [hji18] at H; exact H) | (simp only [hji18] at H ⊢; exact H)
          by_cases c19 : 0 ≤ (ji18)
          · rw [if_pos c19] at H
            have c19b0 := eq_true c19
            have c19b1 : decide (0 ≤ (ji18)) = true := decide_eq_true c19
            clear c19
            by_cases c20 : (ji18) ≤ (t446.length : Int)
            · rw [if_pos c20] at H
              have c20b0 := eq_true c20
              have c20b1 : decide ((ji18) ≤ (t446.length : Int)) = true := decide_eq_true c20
              clear c20
              obtain ⟨y450, hy450⟩ : ∃ y_ : List Int, y_ = (t446.take ((ji18) : Int).toNat) := ⟨_, rfl⟩
              replace H : ((block_Take.f y450).bind fun bt455 => ((some (([] : List Int) : List Int)).bind fun y459 => (if y459.length + t446.length < 140737488355328 then ((some (y459 ++ t446 : List Int)).bind fun y462 => (if 0 ≤ (mn (l3.length : Int) 20) then (if (mn (l3.length : Int) 20) ≤ (l3.length : Int) then (if y462.length + (l3.take ((mn (l3.length : Int) 20) : Int).toNat).length < 140737488355328 then ((block_Take.f (y462 ++ (l3.take ((mn (l3.length : Int) 20) : Int).toNat))).bind fun bt469 => (if bt455.2 = 90 then (if (bt455.1.length : Int) = 0 then (if ((bt469.2 == 0) != ((l3.length : Int) == 0)) = true then (marigraphlaw09_BlockTurned.j1 kj7 a2 t442 t446 ji18 true) else (if bt469.2 = 0 then (marigraphlaw09_BlockTurned.j1 kj7 a2 t442 t446 ji18 false) else (marigraphlaw09_BlockTurned.j1 kj7 a2 t442 t446 ji18 ((bt469.1.length : Int) != 0)))) else (marigraphlaw09_BlockTurned.j1 kj7 a2 t442 t446 ji18 true)) else (marigraphlaw09_BlockTurned.j1 kj7 a2 t442 t446 ji18 true))) else (none)) else (none)) else (none))) else (none)))) = some r := by first | (rw [hy450]; with_reducible exact H) | (have H2_ := (Option.bind_some _ _).symm.trans H; rw [hy450]; with_reducible exact H2_) | (have H2_ := (Option.bind_some _ _).symm.trans H; with_reducible exact H2_) | with_reducible exact H | (rw [hy450]; exact H) | exact H
              have Ny450 := Aside0.mk hy450
              clear hy450
              replace H := Option.bind_eq_some_iff.mp H
              obtain ⟨⟨t455, t456⟩, A210, H⟩ := H
              replace H : ((some (([] : List Int) : List Int)).bind fun y459 => (if y459.length + t446.length < 140737488355328 then ((some (y459 ++ t446 : List Int)).bind fun y462 => (if 0 ≤ (mn (l3.length : Int) 20) then (if (mn (l3.length : Int) 20) ≤ (l3.length : Int) then (if y462.length + (l3.take ((mn (l3.length : Int) 20) : Int).toNat).length < 140737488355328 then ((block_Take.f (y462 ++ (l3.take ((mn (l3.length : Int) 20) : Int).toNat))).bind fun bt469 => (if t456 = 90 then (if (t455.length : Int) = 0 then (if ((bt469.2 == 0) != ((l3.length : Int) == 0)) = true then (marigraphlaw09_BlockTurned.j1 kj7 a2 t442 t446 ji18 true) else (if bt469.2 = 0 then (marigraphlaw09_BlockTurned.j1 kj7 a2 t442 t446 ji18 false) else (marigraphlaw09_BlockTurned.j1 kj7 a2 t442 t446 ji18 ((bt469.1.length : Int) != 0)))) else (marigraphlaw09_BlockTurned.j1 kj7 a2 t442 t446 ji18 true)) else (marigraphlaw09_BlockTurned.j1 kj7 a2 t442 t446 ji18 true))) else (none)) else (none)) else (none))) else (none))) = some r := H
              have A21 := Aside0.mk A210
              clear A210
              obtain ⟨y459, hy459⟩ : ∃ y_ : List Int, y_ = (([] : List Int)) := ⟨_, rfl⟩
              replace H : (if y459.length + t446.length < 140737488355328 then ((some (y459 ++ t446 : List Int)).bind fun y462 => (if 0 ≤ (mn (l3.length : Int) 20) then (if (mn (l3.length : Int) 20) ≤ (l3.length : Int) then (if y462.length + (l3.take ((mn (l3.length : Int) 20) : Int).toNat).length < 140737488355328 then ((block_Take.f (y462 ++ (l3.take ((mn (l3.length : Int) 20) : Int).toNat))).bind fun bt469 => (if t456 = 90 then (if (t455.length : Int) = 0 then (if ((bt469.2 == 0) != ((l3.length : Int) == 0)) = true then (marigraphlaw09_BlockTurned.j1 kj7 a2 t442 t446 ji18 true) else (if bt469.2 = 0 then (marigraphlaw09_BlockTurned.j1 kj7 a2 t442 t446 ji18 false) else (marigraphlaw09_BlockTurned.j1 kj7 a2 t442 t446 ji18 ((bt469.1.length : Int) != 0)))) else (marigraphlaw09_BlockTurned.j1 kj7 a2 t442 t446 ji18 true)) else (marigraphlaw09_BlockTurned.j1 kj7 a2 t442 t446 ji18 true))) else (none)) else (none)) else (none))) else (none)) = some r := by first | (rw [hy459]; with_reducible exact H) | (have H2_ := (Option.bind_some _ _).symm.trans H; rw [hy459]; with_reducible exact H2_) | (have H2_ := (Option.bind_some _ _).symm.trans H; with_reducible exact H2_) | with_reducible exact H | (rw [hy459]; exact H) | exact H
              have Ny459 := Aside0.mk hy459
              clear hy459
              by_cases c22 : y459.length + t446.length < 140737488355328
              · rw [if_pos c22] at H
                have LMc22 := Aside0.mk c22
                clear c22
                obtain ⟨y462, hy462⟩ : ∃ y_ : List Int, y_ = (y459 ++ t446) := ⟨_, rfl⟩
                replace H : (if 0 ≤ (mn (l3.length : Int) 20) then (if (mn (l3.length : Int) 20) ≤ (l3.length : Int) then (if y462.length + (l3.take ((mn (l3.length : Int) 20) : Int).toNat).length < 140737488355328 then ((block_Take.f (y462 ++ (l3.take ((mn (l3.length : Int) 20) : Int).toNat))).bind fun bt469 => (if t456 = 90 then (if (t455.length : Int) = 0 then (if ((bt469.2 == 0) != ((l3.length : Int) == 0)) = true then (marigraphlaw09_BlockTurned.j1 kj7 a2 t442 t446 ji18 true) else (if bt469.2 = 0 then (marigraphlaw09_BlockTurned.j1 kj7 a2 t442 t446 ji18 false) else (marigraphlaw09_BlockTurned.j1 kj7 a2 t442 t446 ji18 ((bt469.1.length : Int) != 0)))) else (marigraphlaw09_BlockTurned.j1 kj7 a2 t442 t446 ji18 true)) else (marigraphlaw09_BlockTurned.j1 kj7 a2 t442 t446 ji18 true))) else (none)) else (none)) else (none)) = some r := by first | (rw [hy462]; with_reducible exact H) | (have H2_ := (Option.bind_some _ _).symm.trans H; rw [hy462]; with_reducible exact H2_) | (have H2_ := (Option.bind_some _ _).symm.trans H; with_reducible exact H2_) | with_reducible exact H | (rw [hy462]; exact H) | exact H
                have Ny462 := Aside0.mk hy462
                clear hy462
                obtain ⟨ji23, hji23⟩ : ∃ j_ : Int, (mn (l3.length : Int) 20) = j_ := ⟨_, rfl⟩
                replace H : (if 0 ≤ (ji23) then (if (ji23) ≤ (l3.length : Int) then (if y462.length + (l3.take ((ji23) : Int).toNat).length < 140737488355328 then ((block_Take.f (y462 ++ (l3.take ((ji23) : Int).toNat))).bind fun bt469 => (if t456 = 90 then (if (t455.length : Int) = 0 then (if ((bt469.2 == 0) != ((l3.length : Int) == 0)) = true then (marigraphlaw09_BlockTurned.j1 kj7 a2 t442 t446 ji18 true) else (if bt469.2 = 0 then (marigraphlaw09_BlockTurned.j1 kj7 a2 t442 t446 ji18 false) else (marigraphlaw09_BlockTurned.j1 kj7 a2 t442 t446 ji18 ((bt469.1.length : Int) != 0)))) else (marigraphlaw09_BlockTurned.j1 kj7 a2 t442 t446 ji18 true)) else (marigraphlaw09_BlockTurned.j1 kj7 a2 t442 t446 ji18 true))) else (none)) else (none)) else (none)) = some r := by first | (rw [hji23] at H; exact H) | (simp only [hji23] at H ⊢; exact H)
                (try rw [hji23] at A21)
                have hji23_ : (if 20 < (l3.length : Int) then 20 else (l3.length : Int)) = ji23 := hji23
                by_cases c24 : 0 ≤ (ji23)
                · rw [if_pos c24] at H
                  have c24b0 := eq_true c24
                  have c24b1 : decide (0 ≤ (ji23)) = true := decide_eq_true c24
                  clear c24
                  by_cases c25 : (ji23) ≤ (l3.length : Int)
                  · rw [if_pos c25] at H
                    have c25b0 := eq_true c25
                    have c25b1 : decide ((ji23) ≤ (l3.length : Int)) = true := decide_eq_true c25
                    clear c25
                    by_cases c26 : y462.length + (l3.take ((ji23) : Int).toNat).length < 140737488355328
                    · rw [if_pos c26] at H
                      have LMc26 := Aside0.mk c26
                      clear c26
                      obtain ⟨y466, hy466⟩ : ∃ y_ : List Int, y_ = (y462 ++ (l3.take ((ji23) : Int).toNat)) := ⟨_, rfl⟩
                      replace H : ((block_Take.f y466).bind fun bt469 => (if t456 = 90 then (if (t455.length : Int) = 0 then (if ((bt469.2 == 0) != ((l3.length : Int) == 0)) = true then (marigraphlaw09_BlockTurned.j1 kj7 a2 t442 t446 ji18 true) else (if bt469.2 = 0 then (marigraphlaw09_BlockTurned.j1 kj7 a2 t442 t446 ji18 false) else (marigraphlaw09_BlockTurned.j1 kj7 a2 t442 t446 ji18 ((bt469.1.length : Int) != 0)))) else (marigraphlaw09_BlockTurned.j1 kj7 a2 t442 t446 ji18 true)) else (marigraphlaw09_BlockTurned.j1 kj7 a2 t442 t446 ji18 true))) = some r := by first | (rw [hy466]; with_reducible exact H) | (have H2_ := (Option.bind_some _ _).symm.trans H; rw [hy466]; with_reducible exact H2_) | (have H2_ := (Option.bind_some _ _).symm.trans H; with_reducible exact H2_) | with_reducible exact H | (rw [hy466]; exact H) | exact H
                      have Ny466 := Aside0.mk hy466
                      clear hy466
                      replace H := Option.bind_eq_some_iff.mp H
                      obtain ⟨⟨t469, t470⟩, A270, H⟩ := H
                      replace H : (if t456 = 90 then (if (t455.length : Int) = 0 then (if ((t470 == 0) != ((l3.length : Int) == 0)) = true then (marigraphlaw09_BlockTurned.j1 kj7 a2 t442 t446 ji18 true) else (if t470 = 0 then (marigraphlaw09_BlockTurned.j1 kj7 a2 t442 t446 ji18 false) else (marigraphlaw09_BlockTurned.j1 kj7 a2 t442 t446 ji18 ((t469.length : Int) != 0)))) else (marigraphlaw09_BlockTurned.j1 kj7 a2 t442 t446 ji18 true)) else (marigraphlaw09_BlockTurned.j1 kj7 a2 t442 t446 ji18 true)) = some r := H
                      have A27 := Aside0.mk A270
                      clear A270
                      have HC28 := Aside0.mk H
                      clear H
                      obtain ⟨Ao29, co29, eo29⟩ := Kd.R_slice HO_10.out
                      subst eo29
                      have q30 : ((ji18) : Int) ≤ ((t446.length : Int) : Int) := of_decide_eq_true (by first | (with_reducible assumption) | assumption)
                      obtain ⟨i030, hi030, _, hsz30, _⟩ := info_parts info5
                      have hroom30 : t446.length ≤ co29 := (Kd.R_reads' HO_10.out).2.1
                      have hC30 : Kd.F (Kd.int .u8) _ _ Ao29 t446.length t446 := (Kd.V_at (base := w.heap.size) (Kd.R_V HO_10.out)).2.2
                      have hcut30 := cut_to (P := Try.prog) 24 5 .i64 Try.underlying24 hi030 Ao29 t446.length co29 (ji18) (of_decide_eq_true (by first | (with_reducible assumption) | assumption)) q30 hroom30
                      have hr30 := Kd.F_take (m := ((ji18) : Int).toNat) hC30 (by omega)
                      have hy30 : y450.length = ((ji18) : Int).toNat := (by rw [Ny450.out, List.length_take]; omega)
                      rw [← Ny450.out] at hr30
                      rw [← hy30] at hcut30
                      have HO454 := Aside0.mk (show Kd.V (Kd.int .u8) 5 _ w.heap.size _ (.slice Ao29 y450.length co29) y450 from Kd.V_mk (by omega) hr30)
                      have HC454 := Aside0.mk (show y450.length ≤ co29 from by omega)
                      clear hr30 hC30 hroom30 hi030 hsz30
                      have KY30 := Aside0.mk hy30
                      clear hy30
                      replace q30 := eq_true q30
                      try go_wp2_with (first | ((with_reducible refine gate_callee (f := 59) rfl ?_); refine goesL_ (some 49) rfl rfl Try.func59 (by kernel_rfl) rfl #[.slice Ao29 y450.length co29] rfl (by (try simp only [List.map_toArray, List.map_cons, List.map_nil]); first | done | rfl | (simp only [List.length_drop, List.length_take]; rfl)) ?_; (with_reducible refine (block_Take.calls _ _ y450 t455 t456 _ ?side1 ?side2 A21.out).mono ?_); (case side1 => repeat (first | exact (Kd.V_reads' HO454.out).2.2 | (with_reducible refine Kd.C_alloc ?_ _) | (with_reducible refine Kd.C_drewN ?_ _) | (with_reducible refine Kd.C_drew ?_))); (case side2 => exact (Kd.V_reads' HO454.out).2.1); rintro e w31 ⟨v457, rfl, ho0, hb⟩; refine ⟨_, rfl, ?_⟩; have n0_ := Aside0.mk (Kd.R_below (by (with_reducible repeat (first | apply Kd.R_alloc | apply Kd.R_drewN | apply Kd.R_drew)); exact HO_10.out) hb); have n1_ := Aside0.mk (Kd.V_elder' (by (with_reducible repeat (first | apply Kd.V_alloc | apply Kd.V_drewN | apply Kd.V_drew)); exact HO454.out) (Kd.N_base ho0) hb); have n2_ := Aside0.mk (Kd.N_lower (Kd.N_mono (ok' := fun k_ => some k_ ≠ (.slice Ao29 t446.length co29 : Value).ownBlock) ((Kd.N_bound ho0)) (fun k_ hk_ => (Kd.fresh' (Kd.R_lt (by (with_reducible repeat (first | apply Kd.R_alloc | apply Kd.R_drewN | apply Kd.R_drew)); exact HO_10.out)) k_ hk_.1))) (below_size (by repeat (first | (with_reducible first | exact HB.out | apply below_alloc | apply pw_below_drewN | apply below_drew1) | exact HB.out)))); have n3_ := Aside0.mk (below_step (by repeat (first | (with_reducible first | exact HB.out | apply below_alloc | apply pw_below_drewN | apply below_drew1) | exact HB.out)) hb); clear HO_10; clear HO454; clear HB; have HO_10 := n0_; have HO454 := n1_; have HO458 := n2_; have HB := n3_; clear n0_ n1_ n2_ n3_; (try clear hb); (try clear hb2); (try clear hk); (try clear hi); (try clear ho0)))
                      have n0_ := Aside0.mk (Kd.R_drew HO_10.out)
                      have n1_ := Aside0.mk (Kd.V_drew HO454.out)
                      have n2_ := Aside0.mk (Kd.N_drew HO458.out)
                      have n3_ := Aside0.mk (below_drew1 HB.out)
                      clear HO_10
                      clear HO454
                      clear HO458
                      clear HB
                      have HO_10 := n0_
                      have HO454 := n1_
                      have HO458 := n2_
                      have HB := n3_
                      clear n0_ n1_ n2_ n3_
                      obtain ⟨i033, hi033, _, hsz33, _⟩ := info_parts info5
                      obtain ⟨hcut33, hA33, hC33⟩ := print_take_of (P := Try.prog) (Value.int .u8) 0 24 5 .i64 Try.underlying24 hi033 hsz33 A3 c3 l3 (ji23) (of_decide_eq_true (by first | (with_reducible assumption) | assumption)) (of_decide_eq_true (by first | (with_reducible assumption) | assumption)) HC3.out
                      have HR465 := Aside0.mk (Kd.C_of_reads (h1 := fun _ => rfl) (hA33 _ (Kd.reads_of_C HR3.out)))
                      have HC465 := Aside0.mk hC33
                      clear hA33 hC33 hi033 hsz33
                      refine start_ (n := 10) (S := fun w' => True) (ds := []) #[false, false, false, false, false, false, false, false, false, false] (by kernel_rfl) rfl rfl trivial (fun hHeld => ?_); refine with_tabW marigraphlaw09_BlockTurned.tab7 marigraphlaw09_BlockTurned.bits7 (fun HT_ HW_ => ?_)
                      generalize w31.drew = w32 at HO_10 HO454 HO458 HB HR465 hHeld ⊢
                      refine pure_ (i := 1) (N := some 53) (v := ?_) (a' := ?_) #[false, true, false, false, false, false, false, false, false, false] rfl rfl (any_of HT_.out (by kernel_rfl)) (fun _ _ _ h => h) (Or.inl ⟨by rfl, ?_⟩) ?_ ?_
                      rotate_left
                      · intro w'
                        go_simp
                        with_reducible rfl
                      rotate_left
                      · simp only [Act.put, List.setIfInBounds_toArray, List.set_cons_zero, List.set_cons_succ, i64_w, i32_w]
                        rfl
                      refine pure_ (i := 3) (N := some 55) (v := ?_) (a' := ?_) #[false, true, false, true, false, false, false, false, false, false] rfl rfl (any_of HT_.out (by kernel_rfl)) (fun _ _ _ h => h) (Or.inl ⟨by rfl, ?_⟩) ?_ ?_
                      rotate_left
                      · intro w'
                        go_simp
                        with_reducible rfl
                      rotate_left
                      · simp only [Act.put, List.setIfInBounds_toArray, List.set_cons_zero, List.set_cons_succ, i64_w, i32_w]
                        rfl
                      refine pure_ (i := 4) (N := some 56) (v := ?_) (a' := ?_) #[false, true, false, true, true, false, false, false, false, false] rfl rfl (any_of HT_.out (by kernel_rfl)) (fun _ _ _ h => h) (Or.inl ⟨by rfl, ?_⟩) ?_ ?_
                      rotate_left
                      · intro w'
                        go_simp
                        with_reducible rfl
                      rotate_left
                      · simp only [Act.put, List.setIfInBounds_toArray, List.set_cons_zero, List.set_cons_succ, i64_w, i32_w]
                        rfl
                      refine pure_ (i := 5) (N := some 57) (v := ?_) (a' := ?_) #[false, true, false, true, true, true, false, false, false, false] rfl rfl (any_of HT_.out (by kernel_rfl)) (fun _ _ _ h => h) (Or.inl ⟨by rfl, ?_⟩) ?_ ?_
                      rotate_left
                      · intro w'
                        go_simp
                        with_reducible rfl
                      rotate_left
                      · simp only [Act.put, List.setIfInBounds_toArray, List.set_cons_zero, List.set_cons_succ, i64_w, i32_w]
                        rfl
                      refine pure_ (i := 6) (N := some 58) (v := ?_) (a' := ?_) #[false, true, false, true, true, true, true, false, false, false] rfl rfl (any_of HT_.out (by kernel_rfl)) (fun _ _ _ h => h) (Or.inl ⟨by rfl, ?_⟩) ?_ ?_
                      rotate_left
                      · intro w'
                        go_simp
                        with_reducible rfl
                      rotate_left
                      · simp only [Act.put, List.setIfInBounds_toArray, List.set_cons_zero, List.set_cons_succ, i64_w, i32_w]
                        rfl
                      refine pure_ (i := 7) (N := some 59) (v := ?_) (a' := ?_) #[false, true, false, true, true, true, true, true, false, false] rfl rfl (any_of HT_.out (by kernel_rfl)) (fun _ _ _ h => h) (Or.inl ⟨by rfl, ?_⟩) ?_ ?_
                      rotate_left
                      · intro w'
                        go_simp
                        with_reducible rfl
                      rotate_left
                      · simp only [Act.put, List.setIfInBounds_toArray, List.set_cons_zero, List.set_cons_succ, i64_w, i32_w]
                        rfl
                      refine one_ (i := 0) (N := some 52) #[true, true, false, true, true, true, true, true, false, false] rfl rfl (one_of HT_.out (by kernel_rfl)) (by decide) (fun K hK => ?_)
                      refine Kd.R_lit_step (Kd.int .u8) _ 5 ?hg (N := 52) ?hd (xs := ([] : List Int)) (inner := []) (ok := fun _ => True) (okp := fun _ => True) ?hr ?hp (fun _ hk => hk) trivial (Below.refl _ _) (Nat.le_refl _) (by simp) ?_; (case hd => rfl); (case hg => rfl); (case hr => first | (go_simp; done) | (go_simp; rfl)); (case hp => exact (Reps.none _ _))
                      intro v460 w34 ho35 hb hg_ hnew_
                      clear hg_ hnew_
                      (first | rw [← Ny459.out] at ho35 | (simp only [Int.reduceToNat] at ho35; rw [← Ny459.out] at ho35))
                      have n0_ := Aside0.mk (Kd.R_elder' (by (with_reducible repeat (first | apply Kd.R_alloc | apply Kd.R_drewN | apply Kd.R_drew)); exact HO_10.out) (Kd.R_base ho35) hb)
                      have n1_ := Aside0.mk (Kd.V_elder' (by (with_reducible repeat (first | apply Kd.V_alloc | apply Kd.V_drewN | apply Kd.V_drew)); exact HO454.out) (Kd.R_base ho35) hb)
                      have n2_ := Aside0.mk (Kd.N_elder' (by (with_reducible repeat (first | apply Kd.N_alloc | apply Kd.N_drewN | apply Kd.N_drew)); exact HO458.out) (Kd.R_base ho35) hb)
                      have n3_ := Aside0.mk (Kd.R_lower (Kd.R_new' ho35 (Kd.R_lt (by (with_reducible repeat (first | apply Kd.R_alloc | apply Kd.R_drewN | apply Kd.R_drew)); exact HO_10.out))) (below_size (by repeat (first | (with_reducible first | exact HB.out | apply below_alloc | apply pw_below_drewN | apply below_drew1) | exact HB.out))))
                      have n4_ := Aside0.mk (below_step (by repeat (first | (with_reducible first | exact HB.out | apply below_alloc | apply pw_below_drewN | apply below_drew1) | exact HB.out)) hb)
                      clear HO_10
                      clear HO454
                      clear HO458
                      clear HB
                      have HO_10 := n0_
                      have HO454 := n1_
                      have HO458 := n2_
                      have HO461 := n3_
                      have HB := n4_
                      clear n0_ n1_ n2_ n3_ n4_
                      clear hb ho35
                      refine hK.out _ _ trivial (fun hHeld => ?_)
                      clear hK K
                      refine norm_ (a' := ?_) ?_ ?_
                      rotate_left
                      · show Act.put _ (some 52) _ = _
                        simp only [Act.put, List.setIfInBounds_toArray, List.set_cons_zero, List.set_cons_succ, i64_w, i32_w]
                        rfl
                      refine one_ (i := 2) (N := some 54) #[true, true, true, true, true, true, true, true, false, false] rfl rfl (one_of HT_.out (by kernel_rfl)) (by decide) (fun K hK => ?_)
                      refine Kd.R_append_rows_step (Kd.int .u8) (w0 := w) w.heap.size (by rfl) (.tmp 52) (.tmp 53) 24 5 (.int .u8 0) 1 rfl Try.underlying24 info5 rfl (by decide) (by omega) v460 y459 t446 _ _ _ (fun k_ => some k_ ≠ (.slice Ao29 t446.length co29 : Value).ownBlock) (fun _ => False) rfl rfl ?aO ?aR (fun _ _ h => h) (fun _ h => h.elim) ?aF ?aB ?aS ?aL ?_
                      (case aR => repeat (first | exact (Kd.R_reads' HO_10.out).2.2 | (with_reducible refine Kd.C_alloc ?_ _) | (with_reducible refine Kd.C_drewN ?_ _) | (with_reducible refine Kd.C_drew ?_)))
                      (case aB => exact (by repeat (first | (with_reducible first | exact HB.out | apply below_alloc | apply pw_below_drewN | apply below_drew1) | exact HB.out)))
                      (case aF => exact (fun k_ hk => Kd.fresh' (Kd.R_lt (by (with_reducible repeat (first | apply Kd.R_alloc | apply Kd.R_drewN | apply Kd.R_drew)); exact HO_10.out)) k_ hk))
                      (case aO => exact (by (with_reducible repeat (first | apply Kd.R_alloc | apply Kd.R_drewN | apply Kd.R_drew)); exact Kd.R_mono HO461.out (fun _ hk => hk.2)))
                      (case aS => exact (below_size (by repeat (first | (with_reducible first | exact HB.out | apply below_alloc | apply pw_below_drewN | apply below_drew1) | exact HB.out))))
                      (case aL => have := LMc22.out; omega)
                      intro v463 w36 ho hb hg hat
                      rw [← Ny462.out] at ho
                      have n0_ := Aside0.mk (Kd.R_after (ok := (fun _ => True)) (by (with_reducible repeat (first | apply Kd.R_alloc | apply Kd.R_drewN | apply Kd.R_drew)); exact HO_10.out) hg hat)
                      have n1_ := Aside0.mk (Kd.V_afterv (ok := (fun k_ => some k_ ≠ (v457 : Value).ownBlock)) (by (with_reducible repeat (first | apply Kd.V_alloc | apply Kd.V_drewN | apply Kd.V_drew)); exact Kd.V_mono HO454.out (fun _ hk => ⟨hk.1.2, hk.2⟩)) hg hat)
                      have n2_ := Aside0.mk (Kd.N_afterv (ok := (fun k_ => some k_ ≠ (.slice Ao29 t446.length co29 : Value).ownBlock)) (by (with_reducible repeat (first | apply Kd.N_alloc | apply Kd.N_drewN | apply Kd.N_drew)); exact HO458.out) hg hat)
                      have n3_ := Aside0.mk (hb)
                      have n4_ := Aside0.mk (ho)
                      clear HO_10
                      clear HO454
                      clear HO458
                      clear HB
                      clear HO461
                      have HO_10 := n0_
                      have HO454 := n1_
                      have HO458 := n2_
                      have HB := n3_
                      have HO464 := n4_
                      clear n0_ n1_ n2_ n3_ n4_
                      clear ho hb hg hat
                      refine hK.out _ _ trivial (fun hHeld => ?_)
                      clear hK K
                      refine norm_ (a' := ?_) ?_ ?_
                      rotate_left
                      · show Act.put _ (some 54) _ = _
                        simp only [Act.put, List.setIfInBounds_toArray, List.set_cons_zero, List.set_cons_succ, i64_w, i32_w]
                        rfl
                      refine one_ (i := 8) (N := some 60) #[true, true, true, true, true, true, true, true, true, false] rfl rfl (one_of HT_.out (by kernel_rfl)) (by decide) (fun K hK => ?_)
                      refine Kd.R_append_rows_step (Kd.int .u8) (w0 := w) w.heap.size (by rfl) (.tmp 54) (.tmp 59) 24 5 (.int .u8 0) 1 rfl Try.underlying24 info5 rfl (by decide) (by omega) v463 y462 (l3.take ((ji23) : Int).toNat) _ _ _ (fun k_ => some k_ ≠ (.slice Ao29 t446.length co29 : Value).ownBlock) (fun _ => False) rfl rfl ?aO ?aR (fun _ _ h => h) (fun _ h => h.elim) ?aF ?aB ?aS ?aL ?_
                      (case aR => have e_ := Kd.C_below HR465.out HB.out; rw [show (l3.take ((ji23) : Int).toNat).length = (ji23).toNat from (by rw [List.length_take]; have h_ : ((ji23) : Int) ≤ (l3.length : Int) := of_decide_eq_true (by first | (with_reducible assumption) | assumption); omega)] at e_; exact e_)
                      (case aB => exact (by repeat (first | (with_reducible first | exact HB.out | apply below_alloc | apply pw_below_drewN | apply below_drew1) | exact HB.out)))
                      (case aF => exact (fun k_ hk => Kd.fresh' (Kd.R_lt (by (with_reducible repeat (first | apply Kd.R_alloc | apply Kd.R_drewN | apply Kd.R_drew)); exact HO_10.out)) k_ hk))
                      (case aO => exact (by (with_reducible repeat (first | apply Kd.R_alloc | apply Kd.R_drewN | apply Kd.R_drew)); exact HO464.out))
                      (case aS => exact (below_size (by repeat (first | (with_reducible first | exact HB.out | apply below_alloc | apply pw_below_drewN | apply below_drew1) | exact HB.out))))
                      (case aL => have := LMc26.out; have hlx_ := (show (l3.take ((ji23) : Int).toNat).length = (ji23).toNat from (by rw [List.length_take]; have h_ : ((ji23) : Int) ≤ (l3.length : Int) := of_decide_eq_true (by first | (with_reducible assumption) | assumption); omega)); omega)
                      intro v467 w37 ho hb hg hat
                      rw [← Ny466.out] at ho
                      have n0_ := Aside0.mk (Kd.R_after (ok := (fun _ => True)) (by (with_reducible repeat (first | apply Kd.R_alloc | apply Kd.R_drewN | apply Kd.R_drew)); exact HO_10.out) hg hat)
                      have n1_ := Aside0.mk (Kd.V_afterv (ok := (fun k_ => some k_ ≠ (v457 : Value).ownBlock)) (by (with_reducible repeat (first | apply Kd.V_alloc | apply Kd.V_drewN | apply Kd.V_drew)); exact HO454.out) hg hat)
                      have n2_ := Aside0.mk (Kd.N_afterv (ok := (fun k_ => some k_ ≠ (.slice Ao29 t446.length co29 : Value).ownBlock)) (by (with_reducible repeat (first | apply Kd.N_alloc | apply Kd.N_drewN | apply Kd.N_drew)); exact HO458.out) hg hat)
                      have n3_ := Aside0.mk (hb)
                      have n4_ := Aside0.mk (ho)
                      clear HO_10
                      clear HO454
                      clear HO458
                      clear HB
                      clear HO464
                      have HO_10 := n0_
                      have HO454 := n1_
                      have HO458 := n2_
                      have HB := n3_
                      have HO468 := n4_
                      clear n0_ n1_ n2_ n3_ n4_
                      clear ho hb hg hat
                      refine hK.out _ _ trivial (fun hHeld => ?_)
                      clear hK K
                      refine norm_ (a' := ?_) ?_ ?_
                      rotate_left
                      · show Act.put _ (some 60) _ = _
                        simp only [Act.put, List.setIfInBounds_toArray, List.set_cons_zero, List.set_cons_succ, i64_w, i32_w]
                        rfl
                      refine pure_ (i := 9) (N := some 15) (v := ?_) (a' := ?_) #[true, true, true, true, true, true, true, true, true, true] rfl rfl (any_of HT_.out (by kernel_rfl)) (fun _ _ _ h => h) (Or.inl ⟨by rfl, ?_⟩) ?_ ?_
                      rotate_left
                      · intro w'
                        go_simp
                        with_reducible rfl
                      rotate_left
                      · simp only [Act.put, List.setIfInBounds_toArray, List.set_cons_zero, List.set_cons_succ, i64_w, i32_w]
                        rfl
                      refine done_ (done_of HT_.out (by kernel_rfl)) ?_
                      obtain ⟨Ao38, co38, eo38⟩ := Kd.R_slice HO468.out
                      subst eo38
                      go_upto_region 9 with (first | ((with_reducible refine gate_callee (f := 59) rfl ?_); refine goesL_ (some 63) rfl rfl Try.func59 (by kernel_rfl) rfl #[.slice Ao38 y466.length co38] rfl (by (try simp only [List.map_toArray, List.map_cons, List.map_nil]); first | done | rfl | (simp only [List.length_drop, List.length_take]; rfl)) ?_; (with_reducible refine (block_Take.calls _ _ y466 t469 t470 _ ?side1 ?side2 A27.out).mono ?_); (case side1 => repeat (first | exact (Kd.R_reads' HO468.out).2.2 | (with_reducible refine Kd.C_alloc ?_ _) | (with_reducible refine Kd.C_drewN ?_ _) | (with_reducible refine Kd.C_drew ?_))); (case side2 => exact (Kd.R_reads' HO468.out).2.1); rintro e w39 ⟨v471, rfl, ho0, hb⟩; refine ⟨_, rfl, ?_⟩; have n0_ := Aside0.mk (Kd.R_below (by (with_reducible repeat (first | apply Kd.R_alloc | apply Kd.R_drewN | apply Kd.R_drew)); exact HO_10.out) hb); have n1_ := Aside0.mk (Kd.V_elder' (by (with_reducible repeat (first | apply Kd.V_alloc | apply Kd.V_drewN | apply Kd.V_drew)); exact HO454.out) (Kd.N_base ho0) hb); have n2_ := Aside0.mk (Kd.N_below (by (with_reducible repeat (first | apply Kd.N_alloc | apply Kd.N_drewN | apply Kd.N_drew)); exact HO458.out) hb); have n3_ := Aside0.mk (Kd.R_below (by (with_reducible repeat (first | apply Kd.R_alloc | apply Kd.R_drewN | apply Kd.R_drew)); exact HO468.out) hb); have n4_ := Aside0.mk (Kd.N_lower (Kd.N_mono (ok' := fun k_ => some k_ ≠ (.slice Ao29 t446.length co29 : Value).ownBlock ∧ some k_ ≠ (v457 : Value).ownBlock ∧ some k_ ≠ (.slice Ao38 y466.length co38 : Value).ownBlock) ((Kd.N_bound ho0)) (fun k_ hk_ => ⟨(Kd.fresh' (Kd.R_lt (by (with_reducible repeat (first | apply Kd.R_alloc | apply Kd.R_drewN | apply Kd.R_drew)); exact HO_10.out)) k_ hk_.1), (Kd.fresh' (Kd.N_lt (by (with_reducible repeat (first | apply Kd.N_alloc | apply Kd.N_drewN | apply Kd.N_drew)); exact HO458.out)) k_ hk_.1), (Kd.fresh' (Kd.R_lt (by (with_reducible repeat (first | apply Kd.R_alloc | apply Kd.R_drewN | apply Kd.R_drew)); exact HO468.out)) k_ hk_.1)⟩)) (below_size (by repeat (first | (with_reducible first | exact HB.out | apply below_alloc | apply pw_below_drewN | apply below_drew1) | exact HB.out)))); have n5_ := Aside0.mk (below_step (by repeat (first | (with_reducible first | exact HB.out | apply below_alloc | apply pw_below_drewN | apply below_drew1) | exact HB.out)) hb); clear HO_10; clear HO454; clear HO458; clear HO468; clear HB; have HO_10 := n0_; have HO454 := n1_; have HO458 := n2_; have HO468 := n3_; have HO472 := n4_; have HB := n5_; clear n0_ n1_ n2_ n3_ n4_ n5_; (try clear hb); (try clear hb2); (try clear hk); (try clear hi); (try clear ho0)))
                      (try simp only [Act.put, List.setIfInBounds_toArray, List.set_cons_zero, List.set_cons_succ])
                      go_cut [89] (fun v89 wc => ∃ (kq : Nat) (x89_27 : Bool), v89 = .bool x89_27 ∧ Aside0 (marigraphlaw09_BlockTurned.j1 kq a2 t442 t446 ji18 x89_27 = some r) ∧ Aside0 (kq ≤ kj7) ∧ Aside0 (Kd.R (Kd.int .u8) 5 wc w.heap.size (fun _ => True) (.slice Ao29 t446.length co29) t446) ∧ Aside0 (Below w.heap.size w wc))
                      case first =>
                        have H := HC28.out
                        clear HC28
                        by_cases c40 : t456 = 90
                        · rw [if_pos c40] at H
                          have c40b0 : (t456 == 90) = true := beq_iff_eq.mpr c40
                          have c40b1 : (t456 != 90) = false := bne_eq_false_iff_eq.mpr c40
                          clear c40
                          (first | rw [c40b0] | (simp only [i64_w, i32_w]; rw [c40b0]) | skip)
                          by_cases c41 : (t455.length : Int) = 0
                          · rw [if_pos c41] at H
                            have c41b0 : ((t455.length : Int) == 0) = true := beq_iff_eq.mpr c41
                            have c41b1 : ((t455.length : Int) != 0) = false := bne_eq_false_iff_eq.mpr c41
                            clear c41
                            by_cases c42 : ((t470 == 0) != ((l3.length : Int) == 0)) = true
                            · rw [if_pos c42] at H
                              have c42b0 : ((t470 == 0) != ((l3.length : Int) == 0)) = true := c42
                              (try (have c42b1 : decide ((t470 == 0) = ((l3.length : Int) == 0)) = false := by simpa using c42))
                              (try (have c42b2 : ((t470 == 0) == ((l3.length : Int) == 0)) = false := by simpa using c42))
                              (try (have c42b3 : ¬ ((t470 == 0) = ((l3.length : Int) == 0)) := by simpa using c42))
                              clear c42
                              have H' := Aside0.mk H
                              clear H
                              obtain ⟨Ao43, co43, eo43⟩ := Kd.N_slice HO458.out
                              subst eo43
                              go_wp2
                              go_meet
                              case rel => exact ⟨_, (true), (by first | rfl | (simp; done) | (simp [*]; done) | (simp <;> grind)), (by first | exact H' | (simp only [hji18, hji23]; exact H')), ⟨by have := HJ7.out; first | omega | exact Nat.le_refl _⟩, ⟨by (with_reducible repeat (first | apply Kd.R_alloc | apply Kd.R_drewN | apply Kd.R_drew)); exact Kd.R_mono HO_10.out (fun _ hk => trivial)⟩, ⟨by repeat (first | (with_reducible first | exact HB.out | apply below_alloc | apply pw_below_drewN | apply below_drew1) | exact HB.out)⟩⟩
                            · rw [if_neg c42] at H
                              have c42b0 : ((t470 == 0) != ((l3.length : Int) == 0)) = false := by simpa using c42
                              (try (have c42b1 : decide ((t470 == 0) = ((l3.length : Int) == 0)) = true := by simpa using c42))
                              (try (have c42b2 : ((t470 == 0) == ((l3.length : Int) == 0)) = true := by simpa using c42))
                              clear c42
                              by_cases c44 : t470 = 0
                              · rw [if_pos c44] at H
                                have c44b0 : (t470 == 0) = true := beq_iff_eq.mpr c44
                                have hl0_ : ((l3.length : Int) == 0) = true := by revert c42b0; rw [c44b0]; cases ((l3.length : Int) == 0) <;> decide
                                have hl1_ : ((l3.length : Int) != 0) = false := by unfold bne; rw [hl0_]; rfl
                                clear c42b0 c42b1 c42b2
                                have c44b1 : (t470 != 0) = false := bne_eq_false_iff_eq.mpr c44
                                clear c44
                                have H' := Aside0.mk H
                                clear H
                                obtain ⟨Ao45, co45, eo45⟩ := Kd.N_slice HO458.out
                                subst eo45
                                go_wp2
                                go_meet
                                case rel => exact ⟨_, (false), (by first | rfl | (simp; done) | (simp [*]; done) | (simp <;> grind)), (by first | exact H' | (simp only [hji18, hji23]; exact H')), ⟨by have := HJ7.out; first | omega | exact Nat.le_refl _⟩, ⟨by (with_reducible repeat (first | apply Kd.R_alloc | apply Kd.R_drewN | apply Kd.R_drew)); exact Kd.R_mono HO_10.out (fun _ hk => trivial)⟩, ⟨by repeat (first | (with_reducible first | exact HB.out | apply below_alloc | apply pw_below_drewN | apply below_drew1) | exact HB.out)⟩⟩
                              · rw [if_neg c44] at H
                                have c44b0 : (t470 == 0) = false := beq_eq_false_iff_ne.mpr c44
                                have hl0_ : ((l3.length : Int) == 0) = false := by revert c42b0; rw [c44b0]; cases ((l3.length : Int) == 0) <;> decide
                                have hl1_ : ((l3.length : Int) != 0) = true := by unfold bne; rw [hl0_]; rfl
                                clear c42b0 c42b1 c42b2
                                have c44b1 : (t470 != 0) = true := bne_iff_ne.mpr c44
                                have H' := Aside0.mk H
                                clear H
                                obtain ⟨Ao46, co46, eo46⟩ := Kd.N_slice HO458.out
                                subst eo46
                                obtain ⟨Ao47, co47, eo47⟩ := Kd.N_slice HO472.out
                                subst eo47
                                go_wp2
                                go_meet
                                case rel => exact ⟨_, (((t469.length : Int) != 0)), (by first | rfl | (simp; done) | (simp [*]; done) | (simp <;> grind)), (by first | exact H' | (simp only [hji18, hji23]; exact H')), ⟨by have := HJ7.out; first | omega | exact Nat.le_refl _⟩, ⟨by (with_reducible repeat (first | apply Kd.R_alloc | apply Kd.R_drewN | apply Kd.R_drew)); exact Kd.R_mono HO_10.out (fun _ hk => trivial)⟩, ⟨by repeat (first | (with_reducible first | exact HB.out | apply below_alloc | apply pw_below_drewN | apply below_drew1) | exact HB.out)⟩⟩
                          · rw [if_neg c41] at H
                            have c41b0 : ((t455.length : Int) == 0) = false := beq_eq_false_iff_ne.mpr c41
                            have c41b1 : ((t455.length : Int) != 0) = true := bne_iff_ne.mpr c41
                            have c41b2 : ¬ (t455 = []) := fun h_ => c41 (by rw [h_]; rfl)
                            have H' := Aside0.mk H
                            clear H
                            obtain ⟨Ao48, co48, eo48⟩ := Kd.N_slice HO458.out
                            subst eo48
                            go_wp2
                            go_meet
                            case rel => exact ⟨_, (true), (by first | rfl | (simp; done) | (simp [*]; done) | (simp <;> grind)), (by first | exact H' | (simp only [hji18, hji23]; exact H')), ⟨by have := HJ7.out; first | omega | exact Nat.le_refl _⟩, ⟨by (with_reducible repeat (first | apply Kd.R_alloc | apply Kd.R_drewN | apply Kd.R_drew)); exact Kd.R_mono HO_10.out (fun _ hk => trivial)⟩, ⟨by repeat (first | (with_reducible first | exact HB.out | apply below_alloc | apply pw_below_drewN | apply below_drew1) | exact HB.out)⟩⟩
                        · rw [if_neg c40] at H
                          have c40b0 : (t456 == 90) = false := beq_eq_false_iff_ne.mpr c40
                          have c40b1 : (t456 != 90) = true := bne_iff_ne.mpr c40
                          (first | rw [c40b0] | (simp only [i64_w, i32_w]; rw [c40b0]) | skip)
                          have H' := Aside0.mk H
                          clear H
                          go_wp2
                          go_meet
                          case rel => exact ⟨_, (true), (by first | rfl | (simp; done) | (simp [*]; done) | (simp <;> grind)), (by first | exact H' | (simp only [hji18, hji23]; exact H')), ⟨by have := HJ7.out; first | omega | exact Nat.le_refl _⟩, ⟨by (with_reducible repeat (first | apply Kd.R_alloc | apply Kd.R_drewN | apply Kd.R_drew)); exact Kd.R_mono HO_10.out (fun _ hk => trivial)⟩, ⟨by repeat (first | (with_reducible first | exact HB.out | apply below_alloc | apply pw_below_drewN | apply below_drew1) | exact HB.out)⟩⟩
                      case rest =>
                        clear HC28
                        try clear c1
                        try clear c2
                        try clear p2
                        try clear c3
                        try clear q3
                        try clear c4
                        try clear c5
                        try clear p6
                        try clear c13
                        try clear c13b0
                        try clear c13b1
                        try clear c15
                        try clear c16
                        try clear c17
                        try clear c17b0
                        try clear c17b1
                        try clear c17b2
                        try clear c19
                        try clear c19b0
                        try clear c19b1
                        try clear c20
                        try clear c20b0
                        try clear c20b1
                        try clear c22
                        try clear c24
                        try clear c24b0
                        try clear c24b1
                        try clear c25
                        try clear c25b0
                        try clear c25b1
                        try clear c26
                        try clear q30
                        try clear c40
                        try clear c40b0
                        try clear c40b1
                        try clear c41
                        try clear c41b0
                        try clear c41b1
                        try clear c41b2
                        try clear c42
                        try clear c42b0
                        try clear c42b1
                        try clear c42b2
                        try clear c44
                        try clear c44b0
                        try clear c44b1
                        try clear c47
                        try clear p2
                        try clear q30
                        obtain ⟨kq, x89_27, rfl, HA, HJ27, HO_10, HB⟩ := hcut
                        cases kq with
                        | zero => exact absurd HA.out (by simp [marigraphlaw09_BlockTurned.j1])
                        | succ kj27 =>
                          have H := HA.out
                          clear HA
                          simp only [marigraphlaw09_BlockTurned.j1] at H
                          by_cases c49 : x89_27 = true
                          · subst c49
                            have H1 : (some false) = some r := by rw [if_pos rfl] at H; exact H
                            clear H
                            have H := H1
                            clear H1
                            obtain rfl := Option.some.inj H
                            go_wp2
                            go_ret
                            exact ⟨by first | rfl | (simp [errW_none, errW_some] <;> rfl) | (simp only [← hji18, ← hji23]; first | rfl | (simp [errW_none, errW_some] <;> rfl)) | (simp [*, errW_none, errW_some] <;> rfl), by repeat (first | (with_reducible first | exact HB.out | apply below_alloc | apply pw_below_drewN | apply below_drew1) | exact HB.out)⟩
                          · replace c49 := Bool.eq_false_iff.mpr c49
                            subst c49
                            have H1 : ((some (([] : List Int) : List Int)).bind fun y473 => (if y473.length + t446.length < 140737488355328 then ((some (y473 ++ t446 : List Int)).bind fun y476 => (if ji18 < 3 then (if (wrap64 ((wrap64 ((t446.length : Int) - 3)) + 1)) = 0 then (none) else (if (wrap64 (ji18 + ((3 : Int) % (wrap64 ((wrap64 ((t446.length : Int) - 3)) + 1))))) < 3 then (some t442) else (if a2 = 0 then (some t442) else (if 0 ≤ (wrap64 (ji18 + ((3 : Int) % (wrap64 ((wrap64 ((t446.length : Int) - 3)) + 1))))) then (if (wrap64 (ji18 + ((3 : Int) % (wrap64 ((wrap64 ((t446.length : Int) - 3)) + 1))))) < (y476.length : Int) then ((block_Take.f (y476.set ((wrap64 (ji18 + ((3 : Int) % (wrap64 ((wrap64 ((t446.length : Int) - 3)) + 1))))) : Int).toNat (Go.bits .xor .u8 (rd y476 (wrap64 (ji18 + ((3 : Int) % (wrap64 ((wrap64 ((t446.length : Int) - 3)) + 1)))))) a2))).bind fun bt481 => (if t442 = true then (if bt481.2 = 90 then (some ((bt481.1.length : Int) == 0)) else (some false)) else (some false))) else (none)) else (none))))) else (if a2 = 0 then (some t442) else (if 0 ≤ ji18 then (if ji18 < (y476.length : Int) then ((block_Take.f (y476.set (ji18 : Int).toNat (Go.bits .xor .u8 (rd y476 ji18) a2))).bind fun bt487 => (if t442 = true then (if bt487.2 = 90 then (some ((bt487.1.length : Int) == 0)) else (some false)) else (some false))) else (none)) else (none))))) else (none))) = some r := by rw [if_neg (show ¬ (false = true) by decide)] at H; exact H
                            clear H
                            have H := H1
                            clear H1
                            obtain ⟨y473, hy473⟩ : ∃ y_ : List Int, y_ = (([] : List Int)) := ⟨_, rfl⟩
                            replace H : (if y473.length + t446.length < 140737488355328 then ((some (y473 ++ t446 : List Int)).bind fun y476 => (if ji18 < 3 then (if (wrap64 ((wrap64 ((t446.length : Int) - 3)) + 1)) = 0 then (none) else (if (wrap64 (ji18 + ((3 : Int) % (wrap64 ((wrap64 ((t446.length : Int) - 3)) + 1))))) < 3 then (some t442) else (if a2 = 0 then (some t442) else (if 0 ≤ (wrap64 (ji18 + ((3 : Int) % (wrap64 ((wrap64 ((t446.length : Int) - 3)) + 1))))) then (if (wrap64 (ji18 + ((3 : Int) % (wrap64 ((wrap64 ((t446.length : Int) - 3)) + 1))))) < (y476.length : Int) then ((block_Take.f (y476.set ((wrap64 (ji18 + ((3 : Int) % (wrap64 ((wrap64 ((t446.length : Int) - 3)) + 1))))) : Int).toNat (Go.bits .xor .u8 (rd y476 (wrap64 (ji18 + ((3 : Int) % (wrap64 ((wrap64 ((t446.length : Int) - 3)) + 1)))))) a2))).bind fun bt481 => (if t442 = true then (if bt481.2 = 90 then (some ((bt481.1.length : Int) == 0)) else (some false)) else (some false))) else (none)) else (none))))) else (if a2 = 0 then (some t442) else (if 0 ≤ ji18 then (if ji18 < (y476.length : Int) then ((block_Take.f (y476.set (ji18 : Int).toNat (Go.bits .xor .u8 (rd y476 ji18) a2))).bind fun bt487 => (if t442 = true then (if bt487.2 = 90 then (some ((bt487.1.length : Int) == 0)) else (some false)) else (some false))) else (none)) else (none))))) else (none)) = some r := by first | (rw [hy473]; with_reducible exact H) | (have H2_ := (Option.bind_some _ _).symm.trans H; rw [hy473]; with_reducible exact H2_) | (have H2_ := (Option.bind_some _ _).symm.trans H; with_reducible exact H2_) | with_reducible exact H | (rw [hy473]; exact H) | exact H
                            have Ny473 := Aside0.mk hy473
                            clear hy473
                            by_cases c50 : y473.length + t446.length < 140737488355328
                            · rw [if_pos c50] at H
                              have LMc50 := Aside0.mk c50
                              clear c50
                              obtain ⟨y476, hy476⟩ : ∃ y_ : List Int, y_ = (y473 ++ t446) := ⟨_, rfl⟩
                              replace H : (if ji18 < 3 then (if (wrap64 ((wrap64 ((t446.length : Int) - 3)) + 1)) = 0 then (none) else (if (wrap64 (ji18 + ((3 : Int) % (wrap64 ((wrap64 ((t446.length : Int) - 3)) + 1))))) < 3 then (some t442) else (if a2 = 0 then (some t442) else (if 0 ≤ (wrap64 (ji18 + ((3 : Int) % (wrap64 ((wrap64 ((t446.length : Int) - 3)) + 1))))) then (if (wrap64 (ji18 + ((3 : Int) % (wrap64 ((wrap64 ((t446.length : Int) - 3)) + 1))))) < (y476.length : Int) then ((block_Take.f (y476.set ((wrap64 (ji18 + ((3 : Int) % (wrap64 ((wrap64 ((t446.length : Int) - 3)) + 1))))) : Int).toNat (Go.bits .xor .u8 (rd y476 (wrap64 (ji18 + ((3 : Int) % (wrap64 ((wrap64 ((t446.length : Int) - 3)) + 1)))))) a2))).bind fun bt481 => (if t442 = true then (if bt481.2 = 90 then (some ((bt481.1.length : Int) == 0)) else (some false)) else (some false))) else (none)) else (none))))) else (if a2 = 0 then (some t442) else (if 0 ≤ ji18 then (if ji18 < (y476.length : Int) then ((block_Take.f (y476.set (ji18 : Int).toNat (Go.bits .xor .u8 (rd y476 ji18) a2))).bind fun bt487 => (if t442 = true then (if bt487.2 = 90 then (some ((bt487.1.length : Int) == 0)) else (some false)) else (some false))) else (none)) else (none)))) = some r := by first | (rw [hy476]; with_reducible exact H) | (have H2_ := (Option.bind_some _ _).symm.trans H; rw [hy476]; with_reducible exact H2_) | (have H2_ := (Option.bind_some _ _).symm.trans H; with_reducible exact H2_) | with_reducible exact H | (rw [hy476]; exact H) | exact H
                              have Ny476 := Aside0.mk hy476
                              clear hy476
                              by_cases c51 : ji18 < 3
                              · rw [if_pos c51] at H
                                have c51b0 : decide (ji18 < 3) = true := decide_eq_true c51
                                clear c51
                                by_cases c52 : (wrap64 ((wrap64 ((t446.length : Int) - 3)) + 1)) = 0
                                · rw [if_pos c52] at H
                                  exact absurd H (by simp)
                                · rw [if_neg c52] at H
                                  have c52b0 : ((wrap64 ((wrap64 ((t446.length : Int) - 3)) + 1)) == 0) = false := beq_eq_false_iff_ne.mpr c52
                                  have c52b1 : ((wrap64 ((wrap64 ((t446.length : Int) - 3)) + 1)) != 0) = true := bne_iff_ne.mpr c52
                                  by_cases c53 : (wrap64 (ji18 + ((3 : Int) % (wrap64 ((wrap64 ((t446.length : Int) - 3)) + 1))))) < 3
                                  · rw [if_pos c53] at H
                                    have c53b0 : decide ((wrap64 (ji18 + ((3 : Int) % (wrap64 ((wrap64 ((t446.length : Int) - 3)) + 1))))) < 3) = true := decide_eq_true c53
                                    clear c53
                                    obtain rfl := Option.some.inj H
                                    go_wp2_with (first | ((with_reducible refine gate_dst (N := 90) rfl ?_); refine Kd.R_lit (Kd.int .u8) _ 5 ?hg (N := 90) ?hd (xs := ([] : List Int)) (inner := []) (ok := fun _ => True) (okp := fun _ => True) ?hr ?hp (fun _ hk => hk) trivial (Below.refl _ _) (Nat.le_refl _) (by simp) ?_; (case hd => rfl); (case hg => rfl); (case hr => first | (go_simp; done) | (go_simp; rfl)); (case hp => exact (Reps.none _ _)); intro v474 w54 ho55 hb hg_ hnew_; clear hg_ hnew_; (first | rw [← Ny473.out] at ho55 | (simp only [Int.reduceToNat] at ho55; rw [← Ny473.out] at ho55)); have n0_ := Aside0.mk (Kd.R_elder' (by (with_reducible repeat (first | apply Kd.R_alloc | apply Kd.R_drewN | apply Kd.R_drew)); exact HO_10.out) (Kd.R_base ho55) hb); have n1_ := Aside0.mk (Kd.R_lower (Kd.R_new' ho55 (Kd.R_lt (by (with_reducible repeat (first | apply Kd.R_alloc | apply Kd.R_drewN | apply Kd.R_drew)); exact HO_10.out))) (below_size (by repeat (first | (with_reducible first | exact HB.out | apply below_alloc | apply pw_below_drewN | apply below_drew1) | exact HB.out)))); have n2_ := Aside0.mk (below_step (by repeat (first | (with_reducible first | exact HB.out | apply below_alloc | apply pw_below_drewN | apply below_drew1) | exact HB.out)) hb); clear HO_10; clear HB; have HO_10 := n0_; have HO475 := n1_; have HB := n2_; clear n0_ n1_ n2_; clear hb ho55) | ((with_reducible refine gate_builtin (b := .append) (xs := #[.tmp 90, .tmp 91]) rfl ?_); at_builtin; refine Kd.R_append_rows (Kd.int .u8) (w0 := w) w.heap.size rfl (.tmp 90) (.tmp 91) 24 5 (.int .u8 0) 1 rfl Try.underlying24 info5 rfl (by decide) (by omega) v474 y473 t446 _ _ _ (fun k_ => some k_ ≠ (.slice Ao29 t446.length co29 : Value).ownBlock) (fun _ => False) rfl rfl ?aO ?aR (fun _ _ h => h) (fun _ h => h.elim) ?aF ?aB ?aS ?aL ?_; (case aR => repeat (first | exact (Kd.R_reads' HO_10.out).2.2 | (with_reducible refine Kd.C_alloc ?_ _) | (with_reducible refine Kd.C_drewN ?_ _) | (with_reducible refine Kd.C_drew ?_))); (case aB => exact (by repeat (first | (with_reducible first | exact HB.out | apply below_alloc | apply pw_below_drewN | apply below_drew1) | exact HB.out))); (case aF => exact (fun k_ hk => Kd.fresh' (Kd.R_lt (by (with_reducible repeat (first | apply Kd.R_alloc | apply Kd.R_drewN | apply Kd.R_drew)); exact HO_10.out)) k_ hk)); (case aO => exact (by (with_reducible repeat (first | apply Kd.R_alloc | apply Kd.R_drewN | apply Kd.R_drew)); exact Kd.R_mono HO475.out (fun _ hk => hk.2))); (case aS => exact (below_size (by repeat (first | (with_reducible first | exact HB.out | apply below_alloc | apply pw_below_drewN | apply below_drew1) | exact HB.out)))); (case aL => have := LMc50.out; omega); intro v477 w56 ho hb hg hat; rw [← Ny476.out] at ho; have n0_ := Aside0.mk (Kd.R_after (ok := (fun _ => True)) (by (with_reducible repeat (first | apply Kd.R_alloc | apply Kd.R_drewN | apply Kd.R_drew)); exact HO_10.out) hg hat); have n1_ := Aside0.mk (hb); have n2_ := Aside0.mk (ho); clear HO_10; clear HB; clear HO475; have HO_10 := n0_; have HB := n1_; have HO478 := n2_; clear n0_ n1_ n2_; clear ho hb hg hat))
                                    go_ret
                                    exact ⟨by first | rfl | (simp [errW_none, errW_some] <;> rfl) | (simp only [← hji18, ← hji23]; first | rfl | (simp [errW_none, errW_some] <;> rfl)) | (simp [*, errW_none, errW_some] <;> rfl), by repeat (first | (with_reducible first | exact HB.out | apply below_alloc | apply pw_below_drewN | apply below_drew1) | exact HB.out)⟩
                                  · rw [if_neg c53] at H
                                    have c53b0 : decide ((wrap64 (ji18 + ((3 : Int) % (wrap64 ((wrap64 ((t446.length : Int) - 3)) + 1))))) < 3) = false := decide_eq_false c53
                                    clear c53
                                    by_cases c57 : a2 = 0
                                    · rw [if_pos c57] at H
                                      have c57b0 : (a2 == 0) = true := beq_iff_eq.mpr c57
                                      have c57b1 : (a2 != 0) = false := bne_eq_false_iff_eq.mpr c57
                                      clear c57
                                      obtain rfl := Option.some.inj H
                                      go_wp2_with (first | ((with_reducible refine gate_dst (N := 90) rfl ?_); refine Kd.R_lit (Kd.int .u8) _ 5 ?hg (N := 90) ?hd (xs := ([] : List Int)) (inner := []) (ok := fun _ => True) (okp := fun _ => True) ?hr ?hp (fun _ hk => hk) trivial (Below.refl _ _) (Nat.le_refl _) (by simp) ?_; (case hd => rfl); (case hg => rfl); (case hr => first | (go_simp; done) | (go_simp; rfl)); (case hp => exact (Reps.none _ _)); intro v474 w58 ho59 hb hg_ hnew_; clear hg_ hnew_; (first | rw [← Ny473.out] at ho59 | (simp only [Int.reduceToNat] at ho59; rw [← Ny473.out] at ho59)); have n0_ := Aside0.mk (Kd.R_elder' (by (with_reducible repeat (first | apply Kd.R_alloc | apply Kd.R_drewN | apply Kd.R_drew)); exact HO_10.out) (Kd.R_base ho59) hb); have n1_ := Aside0.mk (Kd.R_lower (Kd.R_new' ho59 (Kd.R_lt (by (with_reducible repeat (first | apply Kd.R_alloc | apply Kd.R_drewN | apply Kd.R_drew)); exact HO_10.out))) (below_size (by repeat (first | (with_reducible first | exact HB.out | apply below_alloc | apply pw_below_drewN | apply below_drew1) | exact HB.out)))); have n2_ := Aside0.mk (below_step (by repeat (first | (with_reducible first | exact HB.out | apply below_alloc | apply pw_below_drewN | apply below_drew1) | exact HB.out)) hb); clear HO_10; clear HB; have HO_10 := n0_; have HO475 := n1_; have HB := n2_; clear n0_ n1_ n2_; clear hb ho59) | ((with_reducible refine gate_builtin (b := .append) (xs := #[.tmp 90, .tmp 91]) rfl ?_); at_builtin; refine Kd.R_append_rows (Kd.int .u8) (w0 := w) w.heap.size rfl (.tmp 90) (.tmp 91) 24 5 (.int .u8 0) 1 rfl Try.underlying24 info5 rfl (by decide) (by omega) v474 y473 t446 _ _ _ (fun k_ => some k_ ≠ (.slice Ao29 t446.length co29 : Value).ownBlock) (fun _ => False) rfl rfl ?aO ?aR (fun _ _ h => h) (fun _ h => h.elim) ?aF ?aB ?aS ?aL ?_; (case aR => repeat (first | exact (Kd.R_reads' HO_10.out).2.2 | (with_reducible refine Kd.C_alloc ?_ _) | (with_reducible refine Kd.C_drewN ?_ _) | (with_reducible refine Kd.C_drew ?_))); (case aB => exact (by repeat (first | (with_reducible first | exact HB.out | apply below_alloc | apply pw_below_drewN | apply below_drew1) | exact HB.out))); (case aF => exact (fun k_ hk => Kd.fresh' (Kd.R_lt (by (with_reducible repeat (first | apply Kd.R_alloc | apply Kd.R_drewN | apply Kd.R_drew)); exact HO_10.out)) k_ hk)); (case aO => exact (by (with_reducible repeat (first | apply Kd.R_alloc | apply Kd.R_drewN | apply Kd.R_drew)); exact Kd.R_mono HO475.out (fun _ hk => hk.2))); (case aS => exact (below_size (by repeat (first | (with_reducible first | exact HB.out | apply below_alloc | apply pw_below_drewN | apply below_drew1) | exact HB.out)))); (case aL => have := LMc50.out; omega); intro v477 w60 ho hb hg hat; rw [← Ny476.out] at ho; have n0_ := Aside0.mk (Kd.R_after (ok := (fun _ => True)) (by (with_reducible repeat (first | apply Kd.R_alloc | apply Kd.R_drewN | apply Kd.R_drew)); exact HO_10.out) hg hat); have n1_ := Aside0.mk (hb); have n2_ := Aside0.mk (ho); clear HO_10; clear HB; clear HO475; have HO_10 := n0_; have HB := n1_; have HO478 := n2_; clear n0_ n1_ n2_; clear ho hb hg hat))
                                      go_ret
                                      exact ⟨by first | rfl | (simp [errW_none, errW_some] <;> rfl) | (simp only [← hji18, ← hji23]; first | rfl | (simp [errW_none, errW_some] <;> rfl)) | (simp [*, errW_none, errW_some] <;> rfl), by repeat (first | (with_reducible first | exact HB.out | apply below_alloc | apply pw_below_drewN | apply below_drew1) | exact HB.out)⟩
                                    · rw [if_neg c57] at H
                                      have c57b0 : (a2 == 0) = false := beq_eq_false_iff_ne.mpr c57
                                      have c57b1 : (a2 != 0) = true := bne_iff_ne.mpr c57
                                      obtain ⟨ji61, hji61⟩ : ∃ j_ : Int, (wrap64 (ji18 + ((3 : Int) % (wrap64 ((wrap64 ((t446.length : Int) - 3)) + 1))))) = j_ := ⟨_, rfl⟩
                                      replace H : (if 0 ≤ (ji61) then (if (ji61) < (y476.length : Int) then ((block_Take.f (y476.set ((ji61) : Int).toNat (Go.bits .xor .u8 (rd y476 (ji61)) a2))).bind fun bt481 => (if t442 = true then (if bt481.2 = 90 then (some ((bt481.1.length : Int) == 0)) else (some false)) else (some false))) else (none)) else (none)) = some r := by first | (rw [hji61] at H; exact H) | (simp only [hji61] at H ⊢; exact H)
                                      (try rw [hji61] at c53b0)
                                      have hji61w : (IntKind.i64.wrap (ji18 + ((3 : Int) % (wrap64 ((wrap64 ((t446.length : Int) - 3)) + 1))))) = ji61 := (i64_w _).trans hji61
                                      by_cases c62 : 0 ≤ (ji61)
                                      · rw [if_pos c62] at H
                                        have c62b0 : decide (0 ≤ (ji61)) = true := decide_eq_true c62
                                        clear c62
                                        by_cases c63 : (ji61) < (y476.length : Int)
                                        · rw [if_pos c63] at H
                                          have c63b0 : decide ((ji61) < (y476.length : Int)) = true := decide_eq_true c63
                                          clear c63
                                          obtain ⟨y480, hy480⟩ : ∃ y_ : List Int, y_ = (y476.set ((ji61) : Int).toNat (Go.bits .xor .u8 (rd y476 (ji61)) a2)) := ⟨_, rfl⟩
                                          replace H : ((block_Take.f y480).bind fun bt481 => (if t442 = true then (if bt481.2 = 90 then (some ((bt481.1.length : Int) == 0)) else (some false)) else (some false))) = some r := by first | (rw [hy480]; with_reducible exact H) | (have H2_ := (Option.bind_some _ _).symm.trans H; rw [hy480]; with_reducible exact H2_) | (have H2_ := (Option.bind_some _ _).symm.trans H; with_reducible exact H2_) | with_reducible exact H | (rw [hy480]; exact H) | exact H
                                          have Ny480 := Aside0.mk hy480
                                          clear hy480
                                          replace H := Option.bind_eq_some_iff.mp H
                                          obtain ⟨⟨t481, t482⟩, A650, H⟩ := H
                                          replace H : (if t442 = true then (if t482 = 90 then (some ((t481.length : Int) == 0)) else (some false)) else (some false)) = some r := H
                                          have A65 := Aside0.mk A650
                                          clear A650
                                          by_cases c66 : t442 = true
                                          · subst c66
                                            have H1 : (if t482 = 90 then (some ((t481.length : Int) == 0)) else (some false)) = some r := by rw [if_pos rfl] at H; exact H
                                            clear H
                                            have H := H1
                                            clear H1
                                            by_cases c67 : t482 = 90
                                            · rw [if_pos c67] at H
                                              have c67b0 : (t482 == 90) = true := beq_iff_eq.mpr c67
                                              have c67b1 : (t482 != 90) = false := bne_eq_false_iff_eq.mpr c67
                                              clear c67
                                              obtain rfl := Option.some.inj H
                                              go_wp2_with (first | ((with_reducible refine gate_dst (N := 90) rfl ?_); refine Kd.R_lit (Kd.int .u8) _ 5 ?hg (N := 90) ?hd (xs := ([] : List Int)) (inner := []) (ok := fun _ => True) (okp := fun _ => True) ?hr ?hp (fun _ hk => hk) trivial (Below.refl _ _) (Nat.le_refl _) (by simp) ?_; (case hd => rfl); (case hg => rfl); (case hr => first | (go_simp; done) | (go_simp; rfl)); (case hp => exact (Reps.none _ _)); intro v474 w68 ho69 hb hg_ hnew_; clear hg_ hnew_; (first | rw [← Ny473.out] at ho69 | (simp only [Int.reduceToNat] at ho69; rw [← Ny473.out] at ho69)); have n0_ := Aside0.mk (Kd.R_elder' (by (with_reducible repeat (first | apply Kd.R_alloc | apply Kd.R_drewN | apply Kd.R_drew)); exact HO_10.out) (Kd.R_base ho69) hb); have n1_ := Aside0.mk (Kd.R_lower (Kd.R_new' ho69 (Kd.R_lt (by (with_reducible repeat (first | apply Kd.R_alloc | apply Kd.R_drewN | apply Kd.R_drew)); exact HO_10.out))) (below_size (by repeat (first | (with_reducible first | exact HB.out | apply below_alloc | apply pw_below_drewN | apply below_drew1) | exact HB.out)))); have n2_ := Aside0.mk (below_step (by repeat (first | (with_reducible first | exact HB.out | apply below_alloc | apply pw_below_drewN | apply below_drew1) | exact HB.out)) hb); clear HO_10; clear HB; have HO_10 := n0_; have HO475 := n1_; have HB := n2_; clear n0_ n1_ n2_; clear hb ho69) | ((with_reducible refine gate_builtin (b := .append) (xs := #[.tmp 90, .tmp 91]) rfl ?_); at_builtin; refine Kd.R_append_rows (Kd.int .u8) (w0 := w) w.heap.size rfl (.tmp 90) (.tmp 91) 24 5 (.int .u8 0) 1 rfl Try.underlying24 info5 rfl (by decide) (by omega) v474 y473 t446 _ _ _ (fun k_ => some k_ ≠ (.slice Ao29 t446.length co29 : Value).ownBlock) (fun _ => False) rfl rfl ?aO ?aR (fun _ _ h => h) (fun _ h => h.elim) ?aF ?aB ?aS ?aL ?_; (case aR => repeat (first | exact (Kd.R_reads' HO_10.out).2.2 | (with_reducible refine Kd.C_alloc ?_ _) | (with_reducible refine Kd.C_drewN ?_ _) | (with_reducible refine Kd.C_drew ?_))); (case aB => exact (by repeat (first | (with_reducible first | exact HB.out | apply below_alloc | apply pw_below_drewN | apply below_drew1) | exact HB.out))); (case aF => exact (fun k_ hk => Kd.fresh' (Kd.R_lt (by (with_reducible repeat (first | apply Kd.R_alloc | apply Kd.R_drewN | apply Kd.R_drew)); exact HO_10.out)) k_ hk)); (case aO => exact (by (with_reducible repeat (first | apply Kd.R_alloc | apply Kd.R_drewN | apply Kd.R_drew)); exact Kd.R_mono HO475.out (fun _ hk => hk.2))); (case aS => exact (below_size (by repeat (first | (with_reducible first | exact HB.out | apply below_alloc | apply pw_below_drewN | apply below_drew1) | exact HB.out)))); (case aL => have := LMc50.out; omega); intro v477 w70 ho hb hg hat; rw [← Ny476.out] at ho; have n0_ := Aside0.mk (Kd.R_after (ok := (fun _ => True)) (by (with_reducible repeat (first | apply Kd.R_alloc | apply Kd.R_drewN | apply Kd.R_drew)); exact HO_10.out) hg hat); have n1_ := Aside0.mk (hb); have n2_ := Aside0.mk (ho); clear HO_10; clear HB; clear HO475; have HO_10 := n0_; have HB := n1_; have HO478 := n2_; clear n0_ n1_ n2_; clear ho hb hg hat; obtain ⟨Ao71, co71, eo71⟩ := Kd.R_slice HO478.out; subst eo71; have p479 : 0 ≤ ((ji61) : Int) := of_decide_eq_true (by first | (with_reducible assumption) | assumption); have q479 : (ji61) < (y476.length : Int) := of_decide_eq_true (by first | (with_reducible assumption) | assumption); obtain ⟨ad479, e479, hx479_0⟩ := Kd.at_int (Kd.R_reads' HO478.out).2.2 (ji61) p479 q479; cases e479; replace p479 := eq_true p479; replace q479 := eq_true q479; have p64 : 0 ≤ ((ji61) : Int) := of_decide_eq_true (by first | (with_reducible assumption) | assumption); have q64 : ((ji61) : Int) < ((y476.length : Int) : Int) := of_decide_eq_true (by first | (with_reducible assumption) | assumption); obtain ⟨go64, co64, eo64, gb64, gl64, cl64, HG64⟩ := Kd.R_form HO478.out (by omega); (first | cases eo64 | (injection eo64 with ea_ en_ ec_; (first | subst ea_ | (injection ea_ with ea_; subst ea_)); subst ec_; clear en_)); have GB64 := Aside0.mk gb64; have GG64 := Aside0.mk HG64; clear gb64 gl64 HG64; (first | simp only [add_plain] at hx479_0 | skip); obtain ⟨hx64_0, hf64_0⟩ := Kd.R_celln 0 HO478.out ((ji61) : Int) p64 q64; replace p64 := eq_true p64; replace q64 := eq_true q64; obtain ⟨hy72_, hz72_⟩ := Kd.R_celln 0 HO478.out ((ji61) : Int) (of_decide_eq_true (by first | (with_reducible assumption) | assumption)) (of_decide_eq_true (by first | (with_reducible assumption) | assumption)); have HP72 := Kd.R_putg HO478.out ((ji61) : Int) (Go.bits .xor .u8 (rd y476 (ji61)) a2)) | ((with_reducible refine gate_store (t := 5) (p := 115) rfl ?_); refine store_event (t := 5) (p := 115) (v := ?vo_w73) (w1 := (w70.setCell ⟨go64, ((ji61) : Int).toNat, none⟩ (.int .u8 (Go.bits .xor .u8 (rd y476 (ji61)) a2)))) ?hg ?ho ?hn ?hr ?_; (case ho => rfl); (case hg => rfl); (case hn => rfl); (case hr => first | (go_simp; done) | (go_simp; rfl)); intro w73 hw; have hg : w70.grownBy w73 (some go64) := (by rw [hw]; exact HP72.2); have hp_ : Kd.R (Kd.int .u8) 5 w73 w.heap.size (fun k_ => some k_ ≠ (.slice Ao29 t446.length co29 : Value).ownBlock) (.slice (some ⟨go64, 0, none⟩) y476.length co71) y480 := (by rw [hw, Ny480.out]; exact HP72.1); clear HP72; have n0_ := Aside0.mk (Kd.R_after (v := (.slice (some ⟨go64, 0, none⟩) y476.length co71)) (v1 := (.slice (some ⟨go64, 0, none⟩) y476.length co71)) (ok := (fun _ => True)) (by (with_reducible repeat (first | apply Kd.R_alloc | apply Kd.R_drewN | apply Kd.R_drew)); exact HO_10.out) hg (.inl rfl)); have n1_ := Aside0.mk (hp_); have n2_ := Aside0.mk ((by rw [hw]; exact below_set (HB.out) GB64.out : Below w.heap.size w w73)); clear HO_10; clear HO478; clear HB; have HO_10 := n0_; have HO478 := n1_; have HB := n2_; clear n0_ n1_ n2_; clear hg hw hp_) | ((with_reducible refine gate_callee (f := 59) rfl ?_); refine goesL_ (some 118) rfl rfl Try.func59 (by kernel_rfl) rfl #[.slice (some ⟨go64, 0, none⟩) y480.length co71] rfl (by (try simp only [List.map_toArray, List.map_cons, List.map_nil]); first | done | (rw [show y480.length = y476.length from (Kd.R_reads' HO478.out).1.symm] <;> rfl) | rfl | (simp only [List.length_drop, List.length_take]; rfl)) ?_; (with_reducible refine (block_Take.calls _ _ y480 t481 t482 _ ?side1 ?side2 A65.out).mono ?_); (case side1 => repeat (first | exact (Kd.R_reads' HO478.out).2.2 | (with_reducible refine Kd.C_alloc ?_ _) | (with_reducible refine Kd.C_drewN ?_ _) | (with_reducible refine Kd.C_drew ?_))); (case side2 => rw [show y480.length = y476.length from (Kd.R_reads' HO478.out).1.symm]; exact (Kd.R_reads' HO478.out).2.1); rintro e w74 ⟨v483, rfl, ho0, hb⟩; refine ⟨_, rfl, ?_⟩; have n0_ := Aside0.mk (Kd.R_below (by (with_reducible repeat (first | apply Kd.R_alloc | apply Kd.R_drewN | apply Kd.R_drew)); exact HO_10.out) hb); have n1_ := Aside0.mk (Kd.R_below (by (with_reducible repeat (first | apply Kd.R_alloc | apply Kd.R_drewN | apply Kd.R_drew)); exact HO478.out) hb); have n2_ := Aside0.mk (Kd.N_lower (Kd.N_mono (ok' := fun k_ => some k_ ≠ (.slice Ao29 t446.length co29 : Value).ownBlock ∧ some k_ ≠ (.slice (some ⟨go64, 0, none⟩) y476.length co71 : Value).ownBlock) ((Kd.N_bound ho0)) (fun k_ hk_ => ⟨(Kd.fresh' (Kd.R_lt (by (with_reducible repeat (first | apply Kd.R_alloc | apply Kd.R_drewN | apply Kd.R_drew)); exact HO_10.out)) k_ hk_.1), (Kd.fresh' (Kd.R_lt (by (with_reducible repeat (first | apply Kd.R_alloc | apply Kd.R_drewN | apply Kd.R_drew)); exact HO478.out)) k_ hk_.1)⟩)) (below_size (by repeat (first | (with_reducible first | exact HB.out | apply below_alloc | apply pw_below_drewN | apply below_drew1) | exact HB.out)))); have n3_ := Aside0.mk (below_step (by repeat (first | (with_reducible first | exact HB.out | apply below_alloc | apply pw_below_drewN | apply below_drew1) | exact HB.out)) hb); clear HO_10; clear HO478; clear HB; have HO_10 := n0_; have HO478 := n1_; have HO484 := n2_; have HB := n3_; clear n0_ n1_ n2_ n3_; (try clear hb); (try clear hb2); (try clear hk); (try clear hi); (try clear ho0); obtain ⟨Ao75, co75, eo75⟩ := Kd.N_slice HO484.out; subst eo75))
                                              go_ret
                                              exact ⟨by first | rfl | (simp [errW_none, errW_some] <;> rfl) | (simp only [← hji18, ← hji23, ← hji61]; first | rfl | (simp [errW_none, errW_some] <;> rfl)) | (simp [*, errW_none, errW_some] <;> rfl), by repeat (first | (with_reducible first | exact HB.out | apply below_alloc | apply pw_below_drewN | apply below_drew1) | exact HB.out)⟩
                                            · rw [if_neg c67] at H
                                              have c67b0 : (t482 == 90) = false := beq_eq_false_iff_ne.mpr c67
                                              have c67b1 : (t482 != 90) = true := bne_iff_ne.mpr c67
                                              obtain rfl := Option.some.inj H
                                              go_wp2_with (first | ((with_reducible refine gate_dst (N := 90) rfl ?_); refine Kd.R_lit (Kd.int .u8) _ 5 ?hg (N := 90) ?hd (xs := ([] : List Int)) (inner := []) (ok := fun _ => True) (okp := fun _ => True) ?hr ?hp (fun _ hk => hk) trivial (Below.refl _ _) (Nat.le_refl _) (by simp) ?_; (case hd => rfl); (case hg => rfl); (case hr => first | (go_simp; done) | (go_simp; rfl)); (case hp => exact (Reps.none _ _)); intro v474 w76 ho77 hb hg_ hnew_; clear hg_ hnew_; (first | rw [← Ny473.out] at ho77 | (simp only [Int.reduceToNat] at ho77; rw [← Ny473.out] at ho77)); have n0_ := Aside0.mk (Kd.R_elder' (by (with_reducible repeat (first | apply Kd.R_alloc | apply Kd.R_drewN | apply Kd.R_drew)); exact HO_10.out) (Kd.R_base ho77) hb); have n1_ := Aside0.mk (Kd.R_lower (Kd.R_new' ho77 (Kd.R_lt (by (with_reducible repeat (first | apply Kd.R_alloc | apply Kd.R_drewN | apply Kd.R_drew)); exact HO_10.out))) (below_size (by repeat (first | (with_reducible first | exact HB.out | apply below_alloc | apply pw_below_drewN | apply below_drew1) | exact HB.out)))); have n2_ := Aside0.mk (below_step (by repeat (first | (with_reducible first | exact HB.out | apply below_alloc | apply pw_below_drewN | apply below_drew1) | exact HB.out)) hb); clear HO_10; clear HB; have HO_10 := n0_; have HO475 := n1_; have HB := n2_; clear n0_ n1_ n2_; clear hb ho77) | ((with_reducible refine gate_builtin (b := .append) (xs := #[.tmp 90, .tmp 91]) rfl ?_); at_builtin; refine Kd.R_append_rows (Kd.int .u8) (w0 := w) w.heap.size rfl (.tmp 90) (.tmp 91) 24 5 (.int .u8 0) 1 rfl Try.underlying24 info5 rfl (by decide) (by omega) v474 y473 t446 _ _ _ (fun k_ => some k_ ≠ (.slice Ao29 t446.length co29 : Value).ownBlock) (fun _ => False) rfl rfl ?aO ?aR (fun _ _ h => h) (fun _ h => h.elim) ?aF ?aB ?aS ?aL ?_; (case aR => repeat (first | exact (Kd.R_reads' HO_10.out).2.2 | (with_reducible refine Kd.C_alloc ?_ _) | (with_reducible refine Kd.C_drewN ?_ _) | (with_reducible refine Kd.C_drew ?_))); (case aB => exact (by repeat (first | (with_reducible first | exact HB.out | apply below_alloc | apply pw_below_drewN | apply below_drew1) | exact HB.out))); (case aF => exact (fun k_ hk => Kd.fresh' (Kd.R_lt (by (with_reducible repeat (first | apply Kd.R_alloc | apply Kd.R_drewN | apply Kd.R_drew)); exact HO_10.out)) k_ hk)); (case aO => exact (by (with_reducible repeat (first | apply Kd.R_alloc | apply Kd.R_drewN | apply Kd.R_drew)); exact Kd.R_mono HO475.out (fun _ hk => hk.2))); (case aS => exact (below_size (by repeat (first | (with_reducible first | exact HB.out | apply below_alloc | apply pw_below_drewN | apply below_drew1) | exact HB.out)))); (case aL => have := LMc50.out; omega); intro v477 w78 ho hb hg hat; rw [← Ny476.out] at ho; have n0_ := Aside0.mk (Kd.R_after (ok := (fun _ => True)) (by (with_reducible repeat (first | apply Kd.R_alloc | apply Kd.R_drewN | apply Kd.R_drew)); exact HO_10.out) hg hat); have n1_ := Aside0.mk (hb); have n2_ := Aside0.mk (ho); clear HO_10; clear HB; clear HO475; have HO_10 := n0_; have HB := n1_; have HO478 := n2_; clear n0_ n1_ n2_; clear ho hb hg hat; obtain ⟨Ao79, co79, eo79⟩ := Kd.R_slice HO478.out; subst eo79; have p479 : 0 ≤ ((ji61) : Int) := of_decide_eq_true (by first | (with_reducible assumption) | assumption); have q479 : (ji61) < (y476.length : Int) := of_decide_eq_true (by first | (with_reducible assumption) | assumption); obtain ⟨ad479, e479, hx479_0⟩ := Kd.at_int (Kd.R_reads' HO478.out).2.2 (ji61) p479 q479; cases e479; replace p479 := eq_true p479; replace q479 := eq_true q479; have p64 : 0 ≤ ((ji61) : Int) := of_decide_eq_true (by first | (with_reducible assumption) | assumption); have q64 : ((ji61) : Int) < ((y476.length : Int) : Int) := of_decide_eq_true (by first | (with_reducible assumption) | assumption); obtain ⟨go64, co64, eo64, gb64, gl64, cl64, HG64⟩ := Kd.R_form HO478.out (by omega); (first | cases eo64 | (injection eo64 with ea_ en_ ec_; (first | subst ea_ | (injection ea_ with ea_; subst ea_)); subst ec_; clear en_)); have GB64 := Aside0.mk gb64; have GG64 := Aside0.mk HG64; clear gb64 gl64 HG64; (first | simp only [add_plain] at hx479_0 | skip); obtain ⟨hx64_0, hf64_0⟩ := Kd.R_celln 0 HO478.out ((ji61) : Int) p64 q64; replace p64 := eq_true p64; replace q64 := eq_true q64; obtain ⟨hy80_, hz80_⟩ := Kd.R_celln 0 HO478.out ((ji61) : Int) (of_decide_eq_true (by first | (with_reducible assumption) | assumption)) (of_decide_eq_true (by first | (with_reducible assumption) | assumption)); have HP80 := Kd.R_putg HO478.out ((ji61) : Int) (Go.bits .xor .u8 (rd y476 (ji61)) a2)) | ((with_reducible refine gate_store (t := 5) (p := 115) rfl ?_); refine store_event (t := 5) (p := 115) (v := ?vo_w81) (w1 := (w78.setCell ⟨go64, ((ji61) : Int).toNat, none⟩ (.int .u8 (Go.bits .xor .u8 (rd y476 (ji61)) a2)))) ?hg ?ho ?hn ?hr ?_; (case ho => rfl); (case hg => rfl); (case hn => rfl); (case hr => first | (go_simp; done) | (go_simp; rfl)); intro w81 hw; have hg : w78.grownBy w81 (some go64) := (by rw [hw]; exact HP80.2); have hp_ : Kd.R (Kd.int .u8) 5 w81 w.heap.size (fun k_ => some k_ ≠ (.slice Ao29 t446.length co29 : Value).ownBlock) (.slice (some ⟨go64, 0, none⟩) y476.length co79) y480 := (by rw [hw, Ny480.out]; exact HP80.1); clear HP80; have n0_ := Aside0.mk (Kd.R_after (v := (.slice (some ⟨go64, 0, none⟩) y476.length co79)) (v1 := (.slice (some ⟨go64, 0, none⟩) y476.length co79)) (ok := (fun _ => True)) (by (with_reducible repeat (first | apply Kd.R_alloc | apply Kd.R_drewN | apply Kd.R_drew)); exact HO_10.out) hg (.inl rfl)); have n1_ := Aside0.mk (hp_); have n2_ := Aside0.mk ((by rw [hw]; exact below_set (HB.out) GB64.out : Below w.heap.size w w81)); clear HO_10; clear HO478; clear HB; have HO_10 := n0_; have HO478 := n1_; have HB := n2_; clear n0_ n1_ n2_; clear hg hw hp_) | ((with_reducible refine gate_callee (f := 59) rfl ?_); refine goesL_ (some 118) rfl rfl Try.func59 (by kernel_rfl) rfl #[.slice (some ⟨go64, 0, none⟩) y480.length co79] rfl (by (try simp only [List.map_toArray, List.map_cons, List.map_nil]); first | done | (rw [show y480.length = y476.length from (Kd.R_reads' HO478.out).1.symm] <;> rfl) | rfl | (simp only [List.length_drop, List.length_take]; rfl)) ?_; (with_reducible refine (block_Take.calls _ _ y480 t481 t482 _ ?side1 ?side2 A65.out).mono ?_); (case side1 => repeat (first | exact (Kd.R_reads' HO478.out).2.2 | (with_reducible refine Kd.C_alloc ?_ _) | (with_reducible refine Kd.C_drewN ?_ _) | (with_reducible refine Kd.C_drew ?_))); (case side2 => rw [show y480.length = y476.length from (Kd.R_reads' HO478.out).1.symm]; exact (Kd.R_reads' HO478.out).2.1); rintro e w82 ⟨v483, rfl, ho0, hb⟩; refine ⟨_, rfl, ?_⟩; have n0_ := Aside0.mk (Kd.R_below (by (with_reducible repeat (first | apply Kd.R_alloc | apply Kd.R_drewN | apply Kd.R_drew)); exact HO_10.out) hb); have n1_ := Aside0.mk (Kd.R_below (by (with_reducible repeat (first | apply Kd.R_alloc | apply Kd.R_drewN | apply Kd.R_drew)); exact HO478.out) hb); have n2_ := Aside0.mk (Kd.N_lower (Kd.N_mono (ok' := fun k_ => some k_ ≠ (.slice Ao29 t446.length co29 : Value).ownBlock ∧ some k_ ≠ (.slice (some ⟨go64, 0, none⟩) y476.length co79 : Value).ownBlock) ((Kd.N_bound ho0)) (fun k_ hk_ => ⟨(Kd.fresh' (Kd.R_lt (by (with_reducible repeat (first | apply Kd.R_alloc | apply Kd.R_drewN | apply Kd.R_drew)); exact HO_10.out)) k_ hk_.1), (Kd.fresh' (Kd.R_lt (by (with_reducible repeat (first | apply Kd.R_alloc | apply Kd.R_drewN | apply Kd.R_drew)); exact HO478.out)) k_ hk_.1)⟩)) (below_size (by repeat (first | (with_reducible first | exact HB.out | apply below_alloc | apply pw_below_drewN | apply below_drew1) | exact HB.out)))); have n3_ := Aside0.mk (below_step (by repeat (first | (with_reducible first | exact HB.out | apply below_alloc | apply pw_below_drewN | apply below_drew1) | exact HB.out)) hb); clear HO_10; clear HO478; clear HB; have HO_10 := n0_; have HO478 := n1_; have HO484 := n2_; have HB := n3_; clear n0_ n1_ n2_ n3_; (try clear hb); (try clear hb2); (try clear hk); (try clear hi); (try clear ho0)))
                                              go_ret
                                              exact ⟨by first | rfl | (simp [errW_none, errW_some] <;> rfl) | (simp only [← hji18, ← hji23, ← hji61]; first | rfl | (simp [errW_none, errW_some] <;> rfl)) | (simp [*, errW_none, errW_some] <;> rfl), by repeat (first | (with_reducible first | exact HB.out | apply below_alloc | apply pw_below_drewN | apply below_drew1) | exact HB.out)⟩
                                          · replace c66 := Bool.eq_false_iff.mpr c66
                                            subst c66
                                            have H1 : (some false) = some r := by rw [if_neg (show ¬ (false = true) by decide)] at H; exact H
                                            clear H
                                            have H := H1
                                            clear H1
                                            obtain rfl := Option.some.inj H
                                            go_wp2_with (first | ((with_reducible refine gate_dst (N := 90) rfl ?_); refine Kd.R_lit (Kd.int .u8) _ 5 ?hg (N := 90) ?hd (xs := ([] : List Int)) (inner := []) (ok := fun _ => True) (okp := fun _ => True) ?hr ?hp (fun _ hk => hk) trivial (Below.refl _ _) (Nat.le_refl _) (by simp) ?_; (case hd => rfl); (case hg => rfl); (case hr => first | (go_simp; done) | (go_simp; rfl)); (case hp => exact (Reps.none _ _)); intro v474 w83 ho84 hb hg_ hnew_; clear hg_ hnew_; (first | rw [← Ny473.out] at ho84 | (simp only [Int.reduceToNat] at ho84; rw [← Ny473.out] at ho84)); have n0_ := Aside0.mk (Kd.R_elder' (by (with_reducible repeat (first | apply Kd.R_alloc | apply Kd.R_drewN | apply Kd.R_drew)); exact HO_10.out) (Kd.R_base ho84) hb); have n1_ := Aside0.mk (Kd.R_lower (Kd.R_new' ho84 (Kd.R_lt (by (with_reducible repeat (first | apply Kd.R_alloc | apply Kd.R_drewN | apply Kd.R_drew)); exact HO_10.out))) (below_size (by repeat (first | (with_reducible first | exact HB.out | apply below_alloc | apply pw_below_drewN | apply below_drew1) | exact HB.out)))); have n2_ := Aside0.mk (below_step (by repeat (first | (with_reducible first | exact HB.out | apply below_alloc | apply pw_below_drewN | apply below_drew1) | exact HB.out)) hb); clear HO_10; clear HB; have HO_10 := n0_; have HO475 := n1_; have HB := n2_; clear n0_ n1_ n2_; clear hb ho84) | ((with_reducible refine gate_builtin (b := .append) (xs := #[.tmp 90, .tmp 91]) rfl ?_); at_builtin; refine Kd.R_append_rows (Kd.int .u8) (w0 := w) w.heap.size rfl (.tmp 90) (.tmp 91) 24 5 (.int .u8 0) 1 rfl Try.underlying24 info5 rfl (by decide) (by omega) v474 y473 t446 _ _ _ (fun k_ => some k_ ≠ (.slice Ao29 t446.length co29 : Value).ownBlock) (fun _ => False) rfl rfl ?aO ?aR (fun _ _ h => h) (fun _ h => h.elim) ?aF ?aB ?aS ?aL ?_; (case aR => repeat (first | exact (Kd.R_reads' HO_10.out).2.2 | (with_reducible refine Kd.C_alloc ?_ _) | (with_reducible refine Kd.C_drewN ?_ _) | (with_reducible refine Kd.C_drew ?_))); (case aB => exact (by repeat (first | (with_reducible first | exact HB.out | apply below_alloc | apply pw_below_drewN | apply below_drew1) | exact HB.out))); (case aF => exact (fun k_ hk => Kd.fresh' (Kd.R_lt (by (with_reducible repeat (first | apply Kd.R_alloc | apply Kd.R_drewN | apply Kd.R_drew)); exact HO_10.out)) k_ hk)); (case aO => exact (by (with_reducible repeat (first | apply Kd.R_alloc | apply Kd.R_drewN | apply Kd.R_drew)); exact Kd.R_mono HO475.out (fun _ hk => hk.2))); (case aS => exact (below_size (by repeat (first | (with_reducible first | exact HB.out | apply below_alloc | apply pw_below_drewN | apply below_drew1) | exact HB.out)))); (case aL => have := LMc50.out; omega); intro v477 w85 ho hb hg hat; rw [← Ny476.out] at ho; have n0_ := Aside0.mk (Kd.R_after (ok := (fun _ => True)) (by (with_reducible repeat (first | apply Kd.R_alloc | apply Kd.R_drewN | apply Kd.R_drew)); exact HO_10.out) hg hat); have n1_ := Aside0.mk (hb); have n2_ := Aside0.mk (ho); clear HO_10; clear HB; clear HO475; have HO_10 := n0_; have HB := n1_; have HO478 := n2_; clear n0_ n1_ n2_; clear ho hb hg hat; obtain ⟨Ao86, co86, eo86⟩ := Kd.R_slice HO478.out; subst eo86; have p479 : 0 ≤ ((ji61) : Int) := of_decide_eq_true (by first | (with_reducible assumption) | assumption); have q479 : (ji61) < (y476.length : Int) := of_decide_eq_true (by first | (with_reducible assumption) | assumption); obtain ⟨ad479, e479, hx479_0⟩ := Kd.at_int (Kd.R_reads' HO478.out).2.2 (ji61) p479 q479; cases e479; replace p479 := eq_true p479; replace q479 := eq_true q479; have p64 : 0 ≤ ((ji61) : Int) := of_decide_eq_true (by first | (with_reducible assumption) | assumption); have q64 : ((ji61) : Int) < ((y476.length : Int) : Int) := of_decide_eq_true (by first | (with_reducible assumption) | assumption); obtain ⟨go64, co64, eo64, gb64, gl64, cl64, HG64⟩ := Kd.R_form HO478.out (by omega); (first | cases eo64 | (injection eo64 with ea_ en_ ec_; (first | subst ea_ | (injection ea_ with ea_; subst ea_)); subst ec_; clear en_)); have GB64 := Aside0.mk gb64; have GG64 := Aside0.mk HG64; clear gb64 gl64 HG64; (first | simp only [add_plain] at hx479_0 | skip); obtain ⟨hx64_0, hf64_0⟩ := Kd.R_celln 0 HO478.out ((ji61) : Int) p64 q64; replace p64 := eq_true p64; replace q64 := eq_true q64; obtain ⟨hy87_, hz87_⟩ := Kd.R_celln 0 HO478.out ((ji61) : Int) (of_decide_eq_true (by first | (with_reducible assumption) | assumption)) (of_decide_eq_true (by first | (with_reducible assumption) | assumption)); have HP87 := Kd.R_putg HO478.out ((ji61) : Int) (Go.bits .xor .u8 (rd y476 (ji61)) a2)) | ((with_reducible refine gate_store (t := 5) (p := 115) rfl ?_); refine store_event (t := 5) (p := 115) (v := ?vo_w88) (w1 := (w85.setCell ⟨go64, ((ji61) : Int).toNat, none⟩ (.int .u8 (Go.bits .xor .u8 (rd y476 (ji61)) a2)))) ?hg ?ho ?hn ?hr ?_; (case ho => rfl); (case hg => rfl); (case hn => rfl); (case hr => first | (go_simp; done) | (go_simp; rfl)); intro w88 hw; have hg : w85.grownBy w88 (some go64) := (by rw [hw]; exact HP87.2); have hp_ : Kd.R (Kd.int .u8) 5 w88 w.heap.size (fun k_ => some k_ ≠ (.slice Ao29 t446.length co29 : Value).ownBlock) (.slice (some ⟨go64, 0, none⟩) y476.length co86) y480 := (by rw [hw, Ny480.out]; exact HP87.1); clear HP87; have n0_ := Aside0.mk (Kd.R_after (v := (.slice (some ⟨go64, 0, none⟩) y476.length co86)) (v1 := (.slice (some ⟨go64, 0, none⟩) y476.length co86)) (ok := (fun _ => True)) (by (with_reducible repeat (first | apply Kd.R_alloc | apply Kd.R_drewN | apply Kd.R_drew)); exact HO_10.out) hg (.inl rfl)); have n1_ := Aside0.mk (hp_); have n2_ := Aside0.mk ((by rw [hw]; exact below_set (HB.out) GB64.out : Below w.heap.size w w88)); clear HO_10; clear HO478; clear HB; have HO_10 := n0_; have HO478 := n1_; have HB := n2_; clear n0_ n1_ n2_; clear hg hw hp_) | ((with_reducible refine gate_callee (f := 59) rfl ?_); refine goesL_ (some 118) rfl rfl Try.func59 (by kernel_rfl) rfl #[.slice (some ⟨go64, 0, none⟩) y480.length co86] rfl (by (try simp only [List.map_toArray, List.map_cons, List.map_nil]); first | done | (rw [show y480.length = y476.length from (Kd.R_reads' HO478.out).1.symm] <;> rfl) | rfl | (simp only [List.length_drop, List.length_take]; rfl)) ?_; (with_reducible refine (block_Take.calls _ _ y480 t481 t482 _ ?side1 ?side2 A65.out).mono ?_); (case side1 => repeat (first | exact (Kd.R_reads' HO478.out).2.2 | (with_reducible refine Kd.C_alloc ?_ _) | (with_reducible refine Kd.C_drewN ?_ _) | (with_reducible refine Kd.C_drew ?_))); (case side2 => rw [show y480.length = y476.length from (Kd.R_reads' HO478.out).1.symm]; exact (Kd.R_reads' HO478.out).2.1); rintro e w89 ⟨v483, rfl, ho0, hb⟩; refine ⟨_, rfl, ?_⟩; have n0_ := Aside0.mk (Kd.R_below (by (with_reducible repeat (first | apply Kd.R_alloc | apply Kd.R_drewN | apply Kd.R_drew)); exact HO_10.out) hb); have n1_ := Aside0.mk (Kd.R_below (by (with_reducible repeat (first | apply Kd.R_alloc | apply Kd.R_drewN | apply Kd.R_drew)); exact HO478.out) hb); have n2_ := Aside0.mk (Kd.N_lower (Kd.N_mono (ok' := fun k_ => some k_ ≠ (.slice Ao29 t446.length co29 : Value).ownBlock ∧ some k_ ≠ (.slice (some ⟨go64, 0, none⟩) y476.length co86 : Value).ownBlock) ((Kd.N_bound ho0)) (fun k_ hk_ => ⟨(Kd.fresh' (Kd.R_lt (by (with_reducible repeat (first | apply Kd.R_alloc | apply Kd.R_drewN | apply Kd.R_drew)); exact HO_10.out)) k_ hk_.1), (Kd.fresh' (Kd.R_lt (by (with_reducible repeat (first | apply Kd.R_alloc | apply Kd.R_drewN | apply Kd.R_drew)); exact HO478.out)) k_ hk_.1)⟩)) (below_size (by repeat (first | (with_reducible first | exact HB.out | apply below_alloc | apply pw_below_drewN | apply below_drew1) | exact HB.out)))); have n3_ := Aside0.mk (below_step (by repeat (first | (with_reducible first | exact HB.out | apply below_alloc | apply pw_below_drewN | apply below_drew1) | exact HB.out)) hb); clear HO_10; clear HO478; clear HB; have HO_10 := n0_; have HO478 := n1_; have HO484 := n2_; have HB := n3_; clear n0_ n1_ n2_ n3_; (try clear hb); (try clear hb2); (try clear hk); (try clear hi); (try clear ho0)))
                                            go_ret
                                            exact ⟨by first | rfl | (simp [errW_none, errW_some] <;> rfl) | (simp only [← hji18, ← hji23, ← hji61]; first | rfl | (simp [errW_none, errW_some] <;> rfl)) | (simp [*, errW_none, errW_some] <;> rfl), by repeat (first | (with_reducible first | exact HB.out | apply below_alloc | apply pw_below_drewN | apply below_drew1) | exact HB.out)⟩
                                        · rw [if_neg c63] at H
                                          exact absurd H (by simp)
                                      · rw [if_neg c62] at H
                                        exact absurd H (by simp)
                              · rw [if_neg c51] at H
                                have c51b0 : decide (ji18 < 3) = false := decide_eq_false c51
                                clear c51
                                by_cases c90 : a2 = 0
                                · rw [if_pos c90] at H
                                  have c90b0 : (a2 == 0) = true := beq_iff_eq.mpr c90
                                  have c90b1 : (a2 != 0) = false := bne_eq_false_iff_eq.mpr c90
                                  clear c90
                                  obtain rfl := Option.some.inj H
                                  go_wp2_with (first | ((with_reducible refine gate_dst (N := 90) rfl ?_); refine Kd.R_lit (Kd.int .u8) _ 5 ?hg (N := 90) ?hd (xs := ([] : List Int)) (inner := []) (ok := fun _ => True) (okp := fun _ => True) ?hr ?hp (fun _ hk => hk) trivial (Below.refl _ _) (Nat.le_refl _) (by simp) ?_; (case hd => rfl); (case hg => rfl); (case hr => first | (go_simp; done) | (go_simp; rfl)); (case hp => exact (Reps.none _ _)); intro v474 w91 ho92 hb hg_ hnew_; clear hg_ hnew_; (first | rw [← Ny473.out] at ho92 | (simp only [Int.reduceToNat] at ho92; rw [← Ny473.out] at ho92)); have n0_ := Aside0.mk (Kd.R_elder' (by (with_reducible repeat (first | apply Kd.R_alloc | apply Kd.R_drewN | apply Kd.R_drew)); exact HO_10.out) (Kd.R_base ho92) hb); have n1_ := Aside0.mk (Kd.R_lower (Kd.R_new' ho92 (Kd.R_lt (by (with_reducible repeat (first | apply Kd.R_alloc | apply Kd.R_drewN | apply Kd.R_drew)); exact HO_10.out))) (below_size (by repeat (first | (with_reducible first | exact HB.out | apply below_alloc | apply pw_below_drewN | apply below_drew1) | exact HB.out)))); have n2_ := Aside0.mk (below_step (by repeat (first | (with_reducible first | exact HB.out | apply below_alloc | apply pw_below_drewN | apply below_drew1) | exact HB.out)) hb); clear HO_10; clear HB; have HO_10 := n0_; have HO475 := n1_; have HB := n2_; clear n0_ n1_ n2_; clear hb ho92) | ((with_reducible refine gate_builtin (b := .append) (xs := #[.tmp 90, .tmp 91]) rfl ?_); at_builtin; refine Kd.R_append_rows (Kd.int .u8) (w0 := w) w.heap.size rfl (.tmp 90) (.tmp 91) 24 5 (.int .u8 0) 1 rfl Try.underlying24 info5 rfl (by decide) (by omega) v474 y473 t446 _ _ _ (fun k_ => some k_ ≠ (.slice Ao29 t446.length co29 : Value).ownBlock) (fun _ => False) rfl rfl ?aO ?aR (fun _ _ h => h) (fun _ h => h.elim) ?aF ?aB ?aS ?aL ?_; (case aR => repeat (first | exact (Kd.R_reads' HO_10.out).2.2 | (with_reducible refine Kd.C_alloc ?_ _) | (with_reducible refine Kd.C_drewN ?_ _) | (with_reducible refine Kd.C_drew ?_))); (case aB => exact (by repeat (first | (with_reducible first | exact HB.out | apply below_alloc | apply pw_below_drewN | apply below_drew1) | exact HB.out))); (case aF => exact (fun k_ hk => Kd.fresh' (Kd.R_lt (by (with_reducible repeat (first | apply Kd.R_alloc | apply Kd.R_drewN | apply Kd.R_drew)); exact HO_10.out)) k_ hk)); (case aO => exact (by (with_reducible repeat (first | apply Kd.R_alloc | apply Kd.R_drewN | apply Kd.R_drew)); exact Kd.R_mono HO475.out (fun _ hk => hk.2))); (case aS => exact (below_size (by repeat (first | (with_reducible first | exact HB.out | apply below_alloc | apply pw_below_drewN | apply below_drew1) | exact HB.out)))); (case aL => have := LMc50.out; omega); intro v477 w93 ho hb hg hat; rw [← Ny476.out] at ho; have n0_ := Aside0.mk (Kd.R_after (ok := (fun _ => True)) (by (with_reducible repeat (first | apply Kd.R_alloc | apply Kd.R_drewN | apply Kd.R_drew)); exact HO_10.out) hg hat); have n1_ := Aside0.mk (hb); have n2_ := Aside0.mk (ho); clear HO_10; clear HB; clear HO475; have HO_10 := n0_; have HB := n1_; have HO478 := n2_; clear n0_ n1_ n2_; clear ho hb hg hat))
                                  go_ret
                                  exact ⟨by first | rfl | (simp [errW_none, errW_some] <;> rfl) | (simp only [← hji18, ← hji23]; first | rfl | (simp [errW_none, errW_some] <;> rfl)) | (simp [*, errW_none, errW_some] <;> rfl), by repeat (first | (with_reducible first | exact HB.out | apply below_alloc | apply pw_below_drewN | apply below_drew1) | exact HB.out)⟩
                                · rw [if_neg c90] at H
                                  have c90b0 : (a2 == 0) = false := beq_eq_false_iff_ne.mpr c90
                                  have c90b1 : (a2 != 0) = true := bne_iff_ne.mpr c90
                                  by_cases c94 : 0 ≤ ji18
                                  · rw [if_pos c94] at H
                                    have c94b0 : decide (0 ≤ ji18) = true := decide_eq_true c94
                                    clear c94
                                    by_cases c95 : ji18 < (y476.length : Int)
                                    · rw [if_pos c95] at H
                                      have c95b0 : decide (ji18 < (y476.length : Int)) = true := decide_eq_true c95
                                      clear c95
                                      obtain ⟨y486, hy486⟩ : ∃ y_ : List Int, y_ = (y476.set (ji18 : Int).toNat (Go.bits .xor .u8 (rd y476 ji18) a2)) := ⟨_, rfl⟩
                                      replace H : ((block_Take.f y486).bind fun bt487 => (if t442 = true then (if bt487.2 = 90 then (some ((bt487.1.length : Int) == 0)) else (some false)) else (some false))) = some r := by first | (rw [hy486]; with_reducible exact H) | (have H2_ := (Option.bind_some _ _).symm.trans H; rw [hy486]; with_reducible exact H2_) | (have H2_ := (Option.bind_some _ _).symm.trans H; with_reducible exact H2_) | with_reducible exact H | (rw [hy486]; exact H) | exact H
                                      have Ny486 := Aside0.mk hy486
                                      clear hy486
                                      replace H := Option.bind_eq_some_iff.mp H
                                      obtain ⟨⟨t487, t488⟩, A970, H⟩ := H
                                      replace H : (if t442 = true then (if t488 = 90 then (some ((t487.length : Int) == 0)) else (some false)) else (some false)) = some r := H
                                      have A97 := Aside0.mk A970
                                      clear A970
                                      by_cases c98 : t442 = true
                                      · subst c98
                                        have H1 : (if t488 = 90 then (some ((t487.length : Int) == 0)) else (some false)) = some r := by rw [if_pos rfl] at H; exact H
                                        clear H
                                        have H := H1
                                        clear H1
                                        by_cases c99 : t488 = 90
                                        · rw [if_pos c99] at H
                                          have c99b0 : (t488 == 90) = true := beq_iff_eq.mpr c99
                                          have c99b1 : (t488 != 90) = false := bne_eq_false_iff_eq.mpr c99
                                          clear c99
                                          obtain rfl := Option.some.inj H
                                          go_wp2_with (first | ((with_reducible refine gate_dst (N := 90) rfl ?_); refine Kd.R_lit (Kd.int .u8) _ 5 ?hg (N := 90) ?hd (xs := ([] : List Int)) (inner := []) (ok := fun _ => True) (okp := fun _ => True) ?hr ?hp (fun _ hk => hk) trivial (Below.refl _ _) (Nat.le_refl _) (by simp) ?_; (case hd => rfl); (case hg => rfl); (case hr => first | (go_simp; done) | (go_simp; rfl)); (case hp => exact (Reps.none _ _)); intro v474 w100 ho101 hb hg_ hnew_; clear hg_ hnew_; (first | rw [← Ny473.out] at ho101 | (simp only [Int.reduceToNat] at ho101; rw [← Ny473.out] at ho101)); have n0_ := Aside0.mk (Kd.R_elder' (by (with_reducible repeat (first | apply Kd.R_alloc | apply Kd.R_drewN | apply Kd.R_drew)); exact HO_10.out) (Kd.R_base ho101) hb); have n1_ := Aside0.mk (Kd.R_lower (Kd.R_new' ho101 (Kd.R_lt (by (with_reducible repeat (first | apply Kd.R_alloc | apply Kd.R_drewN | apply Kd.R_drew)); exact HO_10.out))) (below_size (by repeat (first | (with_reducible first | exact HB.out | apply below_alloc | apply pw_below_drewN | apply below_drew1) | exact HB.out)))); have n2_ := Aside0.mk (below_step (by repeat (first | (with_reducible first | exact HB.out | apply below_alloc | apply pw_below_drewN | apply below_drew1) | exact HB.out)) hb); clear HO_10; clear HB; have HO_10 := n0_; have HO475 := n1_; have HB := n2_; clear n0_ n1_ n2_; clear hb ho101) | ((with_reducible refine gate_builtin (b := .append) (xs := #[.tmp 90, .tmp 91]) rfl ?_); at_builtin; refine Kd.R_append_rows (Kd.int .u8) (w0 := w) w.heap.size rfl (.tmp 90) (.tmp 91) 24 5 (.int .u8 0) 1 rfl Try.underlying24 info5 rfl (by decide) (by omega) v474 y473 t446 _ _ _ (fun k_ => some k_ ≠ (.slice Ao29 t446.length co29 : Value).ownBlock) (fun _ => False) rfl rfl ?aO ?aR (fun _ _ h => h) (fun _ h => h.elim) ?aF ?aB ?aS ?aL ?_; (case aR => repeat (first | exact (Kd.R_reads' HO_10.out).2.2 | (with_reducible refine Kd.C_alloc ?_ _) | (with_reducible refine Kd.C_drewN ?_ _) | (with_reducible refine Kd.C_drew ?_))); (case aB => exact (by repeat (first | (with_reducible first | exact HB.out | apply below_alloc | apply pw_below_drewN | apply below_drew1) | exact HB.out))); (case aF => exact (fun k_ hk => Kd.fresh' (Kd.R_lt (by (with_reducible repeat (first | apply Kd.R_alloc | apply Kd.R_drewN | apply Kd.R_drew)); exact HO_10.out)) k_ hk)); (case aO => exact (by (with_reducible repeat (first | apply Kd.R_alloc | apply Kd.R_drewN | apply Kd.R_drew)); exact Kd.R_mono HO475.out (fun _ hk => hk.2))); (case aS => exact (below_size (by repeat (first | (with_reducible first | exact HB.out | apply below_alloc | apply pw_below_drewN | apply below_drew1) | exact HB.out)))); (case aL => have := LMc50.out; omega); intro v477 w102 ho hb hg hat; rw [← Ny476.out] at ho; have n0_ := Aside0.mk (Kd.R_after (ok := (fun _ => True)) (by (with_reducible repeat (first | apply Kd.R_alloc | apply Kd.R_drewN | apply Kd.R_drew)); exact HO_10.out) hg hat); have n1_ := Aside0.mk (hb); have n2_ := Aside0.mk (ho); clear HO_10; clear HB; clear HO475; have HO_10 := n0_; have HB := n1_; have HO478 := n2_; clear n0_ n1_ n2_; clear ho hb hg hat; obtain ⟨Ao103, co103, eo103⟩ := Kd.R_slice HO478.out; subst eo103; have p485 : 0 ≤ (ji18 : Int) := of_decide_eq_true (by first | (with_reducible assumption) | assumption); have q485 : ji18 < (y476.length : Int) := of_decide_eq_true (by first | (with_reducible assumption) | assumption); obtain ⟨ad485, e485, hx485_0⟩ := Kd.at_int (Kd.R_reads' HO478.out).2.2 ji18 p485 q485; cases e485; replace p485 := eq_true p485; replace q485 := eq_true q485; have p96 : 0 ≤ (ji18 : Int) := of_decide_eq_true (by first | (with_reducible assumption) | assumption); have q96 : (ji18 : Int) < ((y476.length : Int) : Int) := of_decide_eq_true (by first | (with_reducible assumption) | assumption); obtain ⟨go96, co96, eo96, gb96, gl96, cl96, HG96⟩ := Kd.R_form HO478.out (by omega); (first | cases eo96 | (injection eo96 with ea_ en_ ec_; (first | subst ea_ | (injection ea_ with ea_; subst ea_)); subst ec_; clear en_)); have GB96 := Aside0.mk gb96; have GG96 := Aside0.mk HG96; clear gb96 gl96 HG96; (first | simp only [add_plain] at hx485_0 | skip); obtain ⟨hx96_0, hf96_0⟩ := Kd.R_celln 0 HO478.out (ji18 : Int) p96 q96; replace p96 := eq_true p96; replace q96 := eq_true q96; obtain ⟨hy104_, hz104_⟩ := Kd.R_celln 0 HO478.out (ji18 : Int) (of_decide_eq_true (by first | (with_reducible assumption) | assumption)) (of_decide_eq_true (by first | (with_reducible assumption) | assumption)); have HP104 := Kd.R_putg HO478.out (ji18 : Int) (Go.bits .xor .u8 (rd y476 ji18) a2)) | ((with_reducible refine gate_store (t := 5) (p := 115) rfl ?_); refine store_event (t := 5) (p := 115) (v := ?vo_w105) (w1 := (w102.setCell ⟨go96, (ji18 : Int).toNat, none⟩ (.int .u8 (Go.bits .xor .u8 (rd y476 ji18) a2)))) ?hg ?ho ?hn ?hr ?_; (case ho => rfl); (case hg => rfl); (case hn => rfl); (case hr => first | (go_simp; done) | (go_simp; rfl)); intro w105 hw; have hg : w102.grownBy w105 (some go96) := (by rw [hw]; exact HP104.2); have hp_ : Kd.R (Kd.int .u8) 5 w105 w.heap.size (fun k_ => some k_ ≠ (.slice Ao29 t446.length co29 : Value).ownBlock) (.slice (some ⟨go96, 0, none⟩) y476.length co103) y486 := (by rw [hw, Ny486.out]; exact HP104.1); clear HP104; have n0_ := Aside0.mk (Kd.R_after (v := (.slice (some ⟨go96, 0, none⟩) y476.length co103)) (v1 := (.slice (some ⟨go96, 0, none⟩) y476.length co103)) (ok := (fun _ => True)) (by (with_reducible repeat (first | apply Kd.R_alloc | apply Kd.R_drewN | apply Kd.R_drew)); exact HO_10.out) hg (.inl rfl)); have n1_ := Aside0.mk (hp_); have n2_ := Aside0.mk ((by rw [hw]; exact below_set (HB.out) GB96.out : Below w.heap.size w w105)); clear HO_10; clear HO478; clear HB; have HO_10 := n0_; have HO478 := n1_; have HB := n2_; clear n0_ n1_ n2_; clear hg hw hp_) | ((with_reducible refine gate_callee (f := 59) rfl ?_); refine goesL_ (some 118) rfl rfl Try.func59 (by kernel_rfl) rfl #[.slice (some ⟨go96, 0, none⟩) y486.length co103] rfl (by (try simp only [List.map_toArray, List.map_cons, List.map_nil]); first | done | (rw [show y486.length = y476.length from (Kd.R_reads' HO478.out).1.symm] <;> rfl) | rfl | (simp only [List.length_drop, List.length_take]; rfl)) ?_; (with_reducible refine (block_Take.calls _ _ y486 t487 t488 _ ?side1 ?side2 A97.out).mono ?_); (case side1 => repeat (first | exact (Kd.R_reads' HO478.out).2.2 | (with_reducible refine Kd.C_alloc ?_ _) | (with_reducible refine Kd.C_drewN ?_ _) | (with_reducible refine Kd.C_drew ?_))); (case side2 => rw [show y486.length = y476.length from (Kd.R_reads' HO478.out).1.symm]; exact (Kd.R_reads' HO478.out).2.1); rintro e w106 ⟨v489, rfl, ho0, hb⟩; refine ⟨_, rfl, ?_⟩; have n0_ := Aside0.mk (Kd.R_below (by (with_reducible repeat (first | apply Kd.R_alloc | apply Kd.R_drewN | apply Kd.R_drew)); exact HO_10.out) hb); have n1_ := Aside0.mk (Kd.R_below (by (with_reducible repeat (first | apply Kd.R_alloc | apply Kd.R_drewN | apply Kd.R_drew)); exact HO478.out) hb); have n2_ := Aside0.mk (Kd.N_lower (Kd.N_mono (ok' := fun k_ => some k_ ≠ (.slice Ao29 t446.length co29 : Value).ownBlock ∧ some k_ ≠ (.slice (some ⟨go96, 0, none⟩) y476.length co103 : Value).ownBlock) ((Kd.N_bound ho0)) (fun k_ hk_ => ⟨(Kd.fresh' (Kd.R_lt (by (with_reducible repeat (first | apply Kd.R_alloc | apply Kd.R_drewN | apply Kd.R_drew)); exact HO_10.out)) k_ hk_.1), (Kd.fresh' (Kd.R_lt (by (with_reducible repeat (first | apply Kd.R_alloc | apply Kd.R_drewN | apply Kd.R_drew)); exact HO478.out)) k_ hk_.1)⟩)) (below_size (by repeat (first | (with_reducible first | exact HB.out | apply below_alloc | apply pw_below_drewN | apply below_drew1) | exact HB.out)))); have n3_ := Aside0.mk (below_step (by repeat (first | (with_reducible first | exact HB.out | apply below_alloc | apply pw_below_drewN | apply below_drew1) | exact HB.out)) hb); clear HO_10; clear HO478; clear HB; have HO_10 := n0_; have HO478 := n1_; have HO490 := n2_; have HB := n3_; clear n0_ n1_ n2_ n3_; (try clear hb); (try clear hb2); (try clear hk); (try clear hi); (try clear ho0); obtain ⟨Ao107, co107, eo107⟩ := Kd.N_slice HO490.out; subst eo107))
                                          go_ret
                                          exact ⟨by first | rfl | (simp [errW_none, errW_some] <;> rfl) | (simp only [← hji18, ← hji23]; first | rfl | (simp [errW_none, errW_some] <;> rfl)) | (simp [*, errW_none, errW_some] <;> rfl), by repeat (first | (with_reducible first | exact HB.out | apply below_alloc | apply pw_below_drewN | apply below_drew1) | exact HB.out)⟩
                                        · rw [if_neg c99] at H
                                          have c99b0 : (t488 == 90) = false := beq_eq_false_iff_ne.mpr c99
                                          have c99b1 : (t488 != 90) = true := bne_iff_ne.mpr c99
                                          obtain rfl := Option.some.inj H
                                          go_wp2_with (first | ((with_reducible refine gate_dst (N := 90) rfl ?_); refine Kd.R_lit (Kd.int .u8) _ 5 ?hg (N := 90) ?hd (xs := ([] : List Int)) (inner := []) (ok := fun _ => True) (okp := fun _ => True) ?hr ?hp (fun _ hk => hk) trivial (Below.refl _ _) (Nat.le_refl _) (by simp) ?_; (case hd => rfl); (case hg => rfl); (case hr => first | (go_simp; done) | (go_simp; rfl)); (case hp => exact (Reps.none _ _)); intro v474 w108 ho109 hb hg_ hnew_; clear hg_ hnew_; (first | rw [← Ny473.out] at ho109 | (simp only [Int.reduceToNat] at ho109; rw [← Ny473.out] at ho109)); have n0_ := Aside0.mk (Kd.R_elder' (by (with_reducible repeat (first | apply Kd.R_alloc | apply Kd.R_drewN | apply Kd.R_drew)); exact HO_10.out) (Kd.R_base ho109) hb); have n1_ := Aside0.mk (Kd.R_lower (Kd.R_new' ho109 (Kd.R_lt (by (with_reducible repeat (first | apply Kd.R_alloc | apply Kd.R_drewN | apply Kd.R_drew)); exact HO_10.out))) (below_size (by repeat (first | (with_reducible first | exact HB.out | apply below_alloc | apply pw_below_drewN | apply below_drew1) | exact HB.out)))); have n2_ := Aside0.mk (below_step (by repeat (first | (with_reducible first | exact HB.out | apply below_alloc | apply pw_below_drewN | apply below_drew1) | exact HB.out)) hb); clear HO_10; clear HB; have HO_10 := n0_; have HO475 := n1_; have HB := n2_; clear n0_ n1_ n2_; clear hb ho109) | ((with_reducible refine gate_builtin (b := .append) (xs := #[.tmp 90, .tmp 91]) rfl ?_); at_builtin; refine Kd.R_append_rows (Kd.int .u8) (w0 := w) w.heap.size rfl (.tmp 90) (.tmp 91) 24 5 (.int .u8 0) 1 rfl Try.underlying24 info5 rfl (by decide) (by omega) v474 y473 t446 _ _ _ (fun k_ => some k_ ≠ (.slice Ao29 t446.length co29 : Value).ownBlock) (fun _ => False) rfl rfl ?aO ?aR (fun _ _ h => h) (fun _ h => h.elim) ?aF ?aB ?aS ?aL ?_; (case aR => repeat (first | exact (Kd.R_reads' HO_10.out).2.2 | (with_reducible refine Kd.C_alloc ?_ _) | (with_reducible refine Kd.C_drewN ?_ _) | (with_reducible refine Kd.C_drew ?_))); (case aB => exact (by repeat (first | (with_reducible first | exact HB.out | apply below_alloc | apply pw_below_drewN | apply below_drew1) | exact HB.out))); (case aF => exact (fun k_ hk => Kd.fresh' (Kd.R_lt (by (with_reducible repeat (first | apply Kd.R_alloc | apply Kd.R_drewN | apply Kd.R_drew)); exact HO_10.out)) k_ hk)); (case aO => exact (by (with_reducible repeat (first | apply Kd.R_alloc | apply Kd.R_drewN | apply Kd.R_drew)); exact Kd.R_mono HO475.out (fun _ hk => hk.2))); (case aS => exact (below_size (by repeat (first | (with_reducible first | exact HB.out | apply below_alloc | apply pw_below_drewN | apply below_drew1) | exact HB.out)))); (case aL => have := LMc50.out; omega); intro v477 w110 ho hb hg hat; rw [← Ny476.out] at ho; have n0_ := Aside0.mk (Kd.R_after (ok := (fun _ => True)) (by (with_reducible repeat (first | apply Kd.R_alloc | apply Kd.R_drewN | apply Kd.R_drew)); exact HO_10.out) hg hat); have n1_ := Aside0.mk (hb); have n2_ := Aside0.mk (ho); clear HO_10; clear HB; clear HO475; have HO_10 := n0_; have HB := n1_; have HO478 := n2_; clear n0_ n1_ n2_; clear ho hb hg hat; obtain ⟨Ao111, co111, eo111⟩ := Kd.R_slice HO478.out; subst eo111; have p485 : 0 ≤ (ji18 : Int) := of_decide_eq_true (by first | (with_reducible assumption) | assumption); have q485 : ji18 < (y476.length : Int) := of_decide_eq_true (by first | (with_reducible assumption) | assumption); obtain ⟨ad485, e485, hx485_0⟩ := Kd.at_int (Kd.R_reads' HO478.out).2.2 ji18 p485 q485; cases e485; replace p485 := eq_true p485; replace q485 := eq_true q485; have p96 : 0 ≤ (ji18 : Int) := of_decide_eq_true (by first | (with_reducible assumption) | assumption); have q96 : (ji18 : Int) < ((y476.length : Int) : Int) := of_decide_eq_true (by first | (with_reducible assumption) | assumption); obtain ⟨go96, co96, eo96, gb96, gl96, cl96, HG96⟩ := Kd.R_form HO478.out (by omega); (first | cases eo96 | (injection eo96 with ea_ en_ ec_; (first | subst ea_ | (injection ea_ with ea_; subst ea_)); subst ec_; clear en_)); have GB96 := Aside0.mk gb96; have GG96 := Aside0.mk HG96; clear gb96 gl96 HG96; (first | simp only [add_plain] at hx485_0 | skip); obtain ⟨hx96_0, hf96_0⟩ := Kd.R_celln 0 HO478.out (ji18 : Int) p96 q96; replace p96 := eq_true p96; replace q96 := eq_true q96; obtain ⟨hy112_, hz112_⟩ := Kd.R_celln 0 HO478.out (ji18 : Int) (of_decide_eq_true (by first | (with_reducible assumption) | assumption)) (of_decide_eq_true (by first | (with_reducible assumption) | assumption)); have HP112 := Kd.R_putg HO478.out (ji18 : Int) (Go.bits .xor .u8 (rd y476 ji18) a2)) | ((with_reducible refine gate_store (t := 5) (p := 115) rfl ?_); refine store_event (t := 5) (p := 115) (v := ?vo_w113) (w1 := (w110.setCell ⟨go96, (ji18 : Int).toNat, none⟩ (.int .u8 (Go.bits .xor .u8 (rd y476 ji18) a2)))) ?hg ?ho ?hn ?hr ?_; (case ho => rfl); (case hg => rfl); (case hn => rfl); (case hr => first | (go_simp; done) | (go_simp; rfl)); intro w113 hw; have hg : w110.grownBy w113 (some go96) := (by rw [hw]; exact HP112.2); have hp_ : Kd.R (Kd.int .u8) 5 w113 w.heap.size (fun k_ => some k_ ≠ (.slice Ao29 t446.length co29 : Value).ownBlock) (.slice (some ⟨go96, 0, none⟩) y476.length co111) y486 := (by rw [hw, Ny486.out]; exact HP112.1); clear HP112; have n0_ := Aside0.mk (Kd.R_after (v := (.slice (some ⟨go96, 0, none⟩) y476.length co111)) (v1 := (.slice (some ⟨go96, 0, none⟩) y476.length co111)) (ok := (fun _ => True)) (by (with_reducible repeat (first | apply Kd.R_alloc | apply Kd.R_drewN | apply Kd.R_drew)); exact HO_10.out) hg (.inl rfl)); have n1_ := Aside0.mk (hp_); have n2_ := Aside0.mk ((by rw [hw]; exact below_set (HB.out) GB96.out : Below w.heap.size w w113)); clear HO_10; clear HO478; clear HB; have HO_10 := n0_; have HO478 := n1_; have HB := n2_; clear n0_ n1_ n2_; clear hg hw hp_) | ((with_reducible refine gate_callee (f := 59) rfl ?_); refine goesL_ (some 118) rfl rfl Try.func59 (by kernel_rfl) rfl #[.slice (some ⟨go96, 0, none⟩) y486.length co111] rfl (by (try simp only [List.map_toArray, List.map_cons, List.map_nil]); first | done | (rw [show y486.length = y476.length from (Kd.R_reads' HO478.out).1.symm] <;> rfl) | rfl | (simp only [List.length_drop, List.length_take]; rfl)) ?_; (with_reducible refine (block_Take.calls _ _ y486 t487 t488 _ ?side1 ?side2 A97.out).mono ?_); (case side1 => repeat (first | exact (Kd.R_reads' HO478.out).2.2 | (with_reducible refine Kd.C_alloc ?_ _) | (with_reducible refine Kd.C_drewN ?_ _) | (with_reducible refine Kd.C_drew ?_))); (case side2 => rw [show y486.length = y476.length from (Kd.R_reads' HO478.out).1.symm]; exact (Kd.R_reads' HO478.out).2.1); rintro e w114 ⟨v489, rfl, ho0, hb⟩; refine ⟨_, rfl, ?_⟩; have n0_ := Aside0.mk (Kd.R_below (by (with_reducible repeat (first | apply Kd.R_alloc | apply Kd.R_drewN | apply Kd.R_drew)); exact HO_10.out) hb); have n1_ := Aside0.mk (Kd.R_below (by (with_reducible repeat (first | apply Kd.R_alloc | apply Kd.R_drewN | apply Kd.R_drew)); exact HO478.out) hb); have n2_ := Aside0.mk (Kd.N_lower (Kd.N_mono (ok' := fun k_ => some k_ ≠ (.slice Ao29 t446.length co29 : Value).ownBlock ∧ some k_ ≠ (.slice (some ⟨go96, 0, none⟩) y476.length co111 : Value).ownBlock) ((Kd.N_bound ho0)) (fun k_ hk_ => ⟨(Kd.fresh' (Kd.R_lt (by (with_reducible repeat (first | apply Kd.R_alloc | apply Kd.R_drewN | apply Kd.R_drew)); exact HO_10.out)) k_ hk_.1), (Kd.fresh' (Kd.R_lt (by (with_reducible repeat (first | apply Kd.R_alloc | apply Kd.R_drewN | apply Kd.R_drew)); exact HO478.out)) k_ hk_.1)⟩)) (below_size (by repeat (first | (with_reducible first | exact HB.out | apply below_alloc | apply pw_below_drewN | apply below_drew1) | exact HB.out)))); have n3_ := Aside0.mk (below_step (by repeat (first | (with_reducible first | exact HB.out | apply below_alloc | apply pw_below_drewN | apply below_drew1) | exact HB.out)) hb); clear HO_10; clear HO478; clear HB; have HO_10 := n0_; have HO478 := n1_; have HO490 := n2_; have HB := n3_; clear n0_ n1_ n2_ n3_; (try clear hb); (try clear hb2); (try clear hk); (try clear hi); (try clear ho0)))
                                          go_ret
                                          exact ⟨by first | rfl | (simp [errW_none, errW_some] <;> rfl) | (simp only [← hji18, ← hji23]; first | rfl | (simp [errW_none, errW_some] <;> rfl)) | (simp [*, errW_none, errW_some] <;> rfl), by repeat (first | (with_reducible first | exact HB.out | apply below_alloc | apply pw_below_drewN | apply below_drew1) | exact HB.out)⟩
                                      · replace c98 := Bool.eq_false_iff.mpr c98
                                        subst c98
                                        have H1 : (some false) = some r := by rw [if_neg (show ¬ (false = true) by decide)] at H; exact H
                                        clear H
                                        have H := H1
                                        clear H1
                                        obtain rfl := Option.some.inj H
                                        go_wp2_with (first | ((with_reducible refine gate_dst (N := 90) rfl ?_); refine Kd.R_lit (Kd.int .u8) _ 5 ?hg (N := 90) ?hd (xs := ([] : List Int)) (inner := []) (ok := fun _ => True) (okp := fun _ => True) ?hr ?hp (fun _ hk => hk) trivial (Below.refl _ _) (Nat.le_refl _) (by simp) ?_; (case hd => rfl); (case hg => rfl); (case hr => first | (go_simp; done) | (go_simp; rfl)); (case hp => exact (Reps.none _ _)); intro v474 w115 ho116 hb hg_ hnew_; clear hg_ hnew_; (first | rw [← Ny473.out] at ho116 | (simp only [Int.reduceToNat] at ho116; rw [← Ny473.out] at ho116)); have n0_ := Aside0.mk (Kd.R_elder' (by (with_reducible repeat (first | apply Kd.R_alloc | apply Kd.R_drewN | apply Kd.R_drew)); exact HO_10.out) (Kd.R_base ho116) hb); have n1_ := Aside0.mk (Kd.R_lower (Kd.R_new' ho116 (Kd.R_lt (by (with_reducible repeat (first | apply Kd.R_alloc | apply Kd.R_drewN | apply Kd.R_drew)); exact HO_10.out))) (below_size (by repeat (first | (with_reducible first | exact HB.out | apply below_alloc | apply pw_below_drewN | apply below_drew1) | exact HB.out)))); have n2_ := Aside0.mk (below_step (by repeat (first | (with_reducible first | exact HB.out | apply below_alloc | apply pw_below_drewN | apply below_drew1) | exact HB.out)) hb); clear HO_10; clear HB; have HO_10 := n0_; have HO475 := n1_; have HB := n2_; clear n0_ n1_ n2_; clear hb ho116) | ((with_reducible refine gate_builtin (b := .append) (xs := #[.tmp 90, .tmp 91]) rfl ?_); at_builtin; refine Kd.R_append_rows (Kd.int .u8) (w0 := w) w.heap.size rfl (.tmp 90) (.tmp 91) 24 5 (.int .u8 0) 1 rfl Try.underlying24 info5 rfl (by decide) (by omega) v474 y473 t446 _ _ _ (fun k_ => some k_ ≠ (.slice Ao29 t446.length co29 : Value).ownBlock) (fun _ => False) rfl rfl ?aO ?aR (fun _ _ h => h) (fun _ h => h.elim) ?aF ?aB ?aS ?aL ?_; (case aR => repeat (first | exact (Kd.R_reads' HO_10.out).2.2 | (with_reducible refine Kd.C_alloc ?_ _) | (with_reducible refine Kd.C_drewN ?_ _) | (with_reducible refine Kd.C_drew ?_))); (case aB => exact (by repeat (first | (with_reducible first | exact HB.out | apply below_alloc | apply pw_below_drewN | apply below_drew1) | exact HB.out))); (case aF => exact (fun k_ hk => Kd.fresh' (Kd.R_lt (by (with_reducible repeat (first | apply Kd.R_alloc | apply Kd.R_drewN | apply Kd.R_drew)); exact HO_10.out)) k_ hk)); (case aO => exact (by (with_reducible repeat (first | apply Kd.R_alloc | apply Kd.R_drewN | apply Kd.R_drew)); exact Kd.R_mono HO475.out (fun _ hk => hk.2))); (case aS => exact (below_size (by repeat (first | (with_reducible first | exact HB.out | apply below_alloc | apply pw_below_drewN | apply below_drew1) | exact HB.out)))); (case aL => have := LMc50.out; omega); intro v477 w117 ho hb hg hat; rw [← Ny476.out] at ho; have n0_ := Aside0.mk (Kd.R_after (ok := (fun _ => True)) (by (with_reducible repeat (first | apply Kd.R_alloc | apply Kd.R_drewN | apply Kd.R_drew)); exact HO_10.out) hg hat); have n1_ := Aside0.mk (hb); have n2_ := Aside0.mk (ho); clear HO_10; clear HB; clear HO475; have HO_10 := n0_; have HB := n1_; have HO478 := n2_; clear n0_ n1_ n2_; clear ho hb hg hat; obtain ⟨Ao118, co118, eo118⟩ := Kd.R_slice HO478.out; subst eo118; have p485 : 0 ≤ (ji18 : Int) := of_decide_eq_true (by first | (with_reducible assumption) | assumption); have q485 : ji18 < (y476.length : Int) := of_decide_eq_true (by first | (with_reducible assumption) | assumption); obtain ⟨ad485, e485, hx485_0⟩ := Kd.at_int (Kd.R_reads' HO478.out).2.2 ji18 p485 q485; cases e485; replace p485 := eq_true p485; replace q485 := eq_true q485; have p96 : 0 ≤ (ji18 : Int) := of_decide_eq_true (by first | (with_reducible assumption) | assumption); have q96 : (ji18 : Int) < ((y476.length : Int) : Int) := of_decide_eq_true (by first | (with_reducible assumption) | assumption); obtain ⟨go96, co96, eo96, gb96, gl96, cl96, HG96⟩ := Kd.R_form HO478.out (by omega); (first | cases eo96 | (injection eo96 with ea_ en_ ec_; (first | subst ea_ | (injection ea_ with ea_; subst ea_)); subst ec_; clear en_)); have GB96 := Aside0.mk gb96; have GG96 := Aside0.mk HG96; clear gb96 gl96 HG96; (first | simp only [add_plain] at hx485_0 | skip); obtain ⟨hx96_0, hf96_0⟩ := Kd.R_celln 0 HO478.out (ji18 : Int) p96 q96; replace p96 := eq_true p96; replace q96 := eq_true q96; obtain ⟨hy119_, hz119_⟩ := Kd.R_celln 0 HO478.out (ji18 : Int) (of_decide_eq_true (by first | (with_reducible assumption) | assumption)) (of_decide_eq_true (by first | (with_reducible assumption) | assumption)); have HP119 := Kd.R_putg HO478.out (ji18 : Int) (Go.bits .xor .u8 (rd y476 ji18) a2)) | ((with_reducible refine gate_store (t := 5) (p := 115) rfl ?_); refine store_event (t := 5) (p := 115) (v := ?vo_w120) (w1 := (w117.setCell ⟨go96, (ji18 : Int).toNat, none⟩ (.int .u8 (Go.bits .xor .u8 (rd y476 ji18) a2)))) ?hg ?ho ?hn ?hr ?_; (case ho => rfl); (case hg => rfl); (case hn => rfl); (case hr => first | (go_simp; done) | (go_simp; rfl)); intro w120 hw; have hg : w117.grownBy w120 (some go96) := (by rw [hw]; exact HP119.2); have hp_ : Kd.R (Kd.int .u8) 5 w120 w.heap.size (fun k_ => some k_ ≠ (.slice Ao29 t446.length co29 : Value).ownBlock) (.slice (some ⟨go96, 0, none⟩) y476.length co118) y486 := (by rw [hw, Ny486.out]; exact HP119.1); clear HP119; have n0_ := Aside0.mk (Kd.R_after (v := (.slice (some ⟨go96, 0, none⟩) y476.length co118)) (v1 := (.slice (some ⟨go96, 0, none⟩) y476.length co118)) (ok := (fun _ => True)) (by (with_reducible repeat (first | apply Kd.R_alloc | apply Kd.R_drewN | apply Kd.R_drew)); exact HO_10.out) hg (.inl rfl)); have n1_ := Aside0.mk (hp_); have n2_ := Aside0.mk ((by rw [hw]; exact below_set (HB.out) GB96.out : Below w.heap.size w w120)); clear HO_10; clear HO478; clear HB; have HO_10 := n0_; have HO478 := n1_; have HB := n2_; clear n0_ n1_ n2_; clear hg hw hp_) | ((with_reducible refine gate_callee (f := 59) rfl ?_); refine goesL_ (some 118) rfl rfl Try.func59 (by kernel_rfl) rfl #[.slice (some ⟨go96, 0, none⟩) y486.length co118] rfl (by (try simp only [List.map_toArray, List.map_cons, List.map_nil]); first | done | (rw [show y486.length = y476.length from (Kd.R_reads' HO478.out).1.symm] <;> rfl) | rfl | (simp only [List.length_drop, List.length_take]; rfl)) ?_; (with_reducible refine (block_Take.calls _ _ y486 t487 t488 _ ?side1 ?side2 A97.out).mono ?_); (case side1 => repeat (first | exact (Kd.R_reads' HO478.out).2.2 | (with_reducible refine Kd.C_alloc ?_ _) | (with_reducible refine Kd.C_drewN ?_ _) | (with_reducible refine Kd.C_drew ?_))); (case side2 => rw [show y486.length = y476.length from (Kd.R_reads' HO478.out).1.symm]; exact (Kd.R_reads' HO478.out).2.1); rintro e w121 ⟨v489, rfl, ho0, hb⟩; refine ⟨_, rfl, ?_⟩; have n0_ := Aside0.mk (Kd.R_below (by (with_reducible repeat (first | apply Kd.R_alloc | apply Kd.R_drewN | apply Kd.R_drew)); exact HO_10.out) hb); have n1_ := Aside0.mk (Kd.R_below (by (with_reducible repeat (first | apply Kd.R_alloc | apply Kd.R_drewN | apply Kd.R_drew)); exact HO478.out) hb); have n2_ := Aside0.mk (Kd.N_lower (Kd.N_mono (ok' := fun k_ => some k_ ≠ (.slice Ao29 t446.length co29 : Value).ownBlock ∧ some k_ ≠ (.slice (some ⟨go96, 0, none⟩) y476.length co118 : Value).ownBlock) ((Kd.N_bound ho0)) (fun k_ hk_ => ⟨(Kd.fresh' (Kd.R_lt (by (with_reducible repeat (first | apply Kd.R_alloc | apply Kd.R_drewN | apply Kd.R_drew)); exact HO_10.out)) k_ hk_.1), (Kd.fresh' (Kd.R_lt (by (with_reducible repeat (first | apply Kd.R_alloc | apply Kd.R_drewN | apply Kd.R_drew)); exact HO478.out)) k_ hk_.1)⟩)) (below_size (by repeat (first | (with_reducible first | exact HB.out | apply below_alloc | apply pw_below_drewN | apply below_drew1) | exact HB.out)))); have n3_ := Aside0.mk (below_step (by repeat (first | (with_reducible first | exact HB.out | apply below_alloc | apply pw_below_drewN | apply below_drew1) | exact HB.out)) hb); clear HO_10; clear HO478; clear HB; have HO_10 := n0_; have HO478 := n1_; have HO490 := n2_; have HB := n3_; clear n0_ n1_ n2_ n3_; (try clear hb); (try clear hb2); (try clear hk); (try clear hi); (try clear ho0)))
                                        go_ret
                                        exact ⟨by first | rfl | (simp [errW_none, errW_some] <;> rfl) | (simp only [← hji18, ← hji23]; first | rfl | (simp [errW_none, errW_some] <;> rfl)) | (simp [*, errW_none, errW_some] <;> rfl), by repeat (first | (with_reducible first | exact HB.out | apply below_alloc | apply pw_below_drewN | apply below_drew1) | exact HB.out)⟩
                                    · rw [if_neg c95] at H
                                      exact absurd H (by simp)
                                  · rw [if_neg c94] at H
                                    exact absurd H (by simp)
                            · rw [if_neg c50] at H
                              exact absurd H (by simp)
                    · rw [if_neg c26] at H
                      exact absurd H (by simp)
                  · rw [if_neg c25] at H
                    exact absurd H (by simp)
                · rw [if_neg c24] at H
                  exact absurd H (by simp)
              · rw [if_neg c22] at H
                exact absurd H (by simp)
            · rw [if_neg c20] at H
              exact absurd H (by simp)
          · rw [if_neg c19] at H
            exact absurd H (by simp)

end Go.Proofs.Ythkpnnbjcendcaa.X
end
