-- By xprint.py, out of the translation's own print. Lean checks it.
import Derived.Test.YtjkpdjadbeidnaaX0
import Derived.Test.YtjkpdjadbeidnaaX1
import Derived.Test.YtjkpdjadbeidnaaX13
import Derived.Test.YtjkpdjadbeidnaaX15
import Derived.Test.YtjkpdjadbeidnaaX16
namespace Go.Proofs.Ytjkpdjadbeidnaa.X
open Go.RowKit Go.Proofs.YtjkpdjadbeidnaaW.PrintWords Go.Proofs.YtjkpdjadbeidnaaW.PrintLast Go.Proofs.YtjkpdjadbeidnaaW.PrintMore
attribute [local go_sem] max2_int min2_int max_two min_two max_three min_three max_four min_four   -- for this text's walks alone
set_option linter.unusedVariables false
set_option linter.unusedSimpArgs false

attribute [local go_sem high] idxA80
attribute [local go_sem high] eqA33
/-! ### marigraphlaw12_AggShift: function 14 -/
mutual
def marigraphlaw12_AggShift.l0 : Nat → Int → Bool → Int → Int → List (S33) → List (S33) → List (S33) → Int → Int → Option (Bool)
  | 0, _, _, _, _, _, _, _, _, _ => none
  | k + 1, x3, x9, x10, x11, x12, x13, x31, x32, x33 => if x33 < x32 then (if 0 ≤ x33 then (if x33 < (x31.length : Int) then (if (x12.length : Int) > 0 then (if 0 ≤ (wrap64 ((x12.length : Int) - 1)) then (if (wrap64 ((x12.length : Int) - 1)) < (x12.length : Int) then (if (Int.tmod ((rd_T33 x31 x33).f0) 1099511627776) ≤ ((rd_T33 x12 (wrap64 ((x12.length : Int) - 1))).f0) then (marigraphlaw12_AggShift.l0 k x3 x9 x10 x11 x12 x13 x31 x32 (wrap64 (x33 + 1))) else ((some (([(⟨Int.tmod ((rd_T33 x31 x33).f0) 1099511627776, (rd_T33 x31 x33).f1⟩ : S33)] : List (S33)) : List (S33))).bind fun y395 => (if x12.length + y395.length < 8796093022208 then ((some (([(⟨wrap64 ((Int.tmod ((rd_T33 x31 x33).f0) 1099511627776) + (wrap64 (x10 * x11))), (rd_T33 x31 x33).f1⟩ : S33)] : List (S33)) : List (S33))).bind fun y401 => (if x13.length + y401.length < 8796093022208 then (marigraphlaw12_AggShift.l0 k x3 x9 x10 x11 (x12 ++ y395) (x13 ++ y401) x31 x32 (wrap64 (x33 + 1))) else (none))) else (none)))) else (none)) else (none)) else ((some (([(⟨Int.tmod ((rd_T33 x31 x33).f0) 1099511627776, (rd_T33 x31 x33).f1⟩ : S33)] : List (S33)) : List (S33))).bind fun y407 => (if x12.length + y407.length < 8796093022208 then ((some (([(⟨wrap64 ((Int.tmod ((rd_T33 x31 x33).f0) 1099511627776) + (wrap64 (x10 * x11))), (rd_T33 x31 x33).f1⟩ : S33)] : List (S33)) : List (S33))).bind fun y413 => (if x13.length + y413.length < 8796093022208 then (marigraphlaw12_AggShift.l0 k x3 x9 x10 x11 (x12 ++ y407) (x13 ++ y413) x31 x32 (wrap64 (x33 + 1))) else (none))) else (none)))) else (none)) else (none)) else ((agg_Rollup.f k x12 x10 (Int.tmod x3 6)).bind fun bt419 => ((agg_Rollup.f k x13 x10 (Int.tmod x3 6)).bind fun bt423 => (if bt419.2 = 0 then (if bt423.2 = 0 then (marigraphlaw12_AggShift.j1 k x9 x10 x11 bt419.1 bt423.1 ((bt419.1.length : Int) != (bt423.1.length : Int))) else (marigraphlaw12_AggShift.j1 k x9 x10 x11 bt419.1 bt423.1 true)) else (marigraphlaw12_AggShift.j1 k x9 x10 x11 bt419.1 bt423.1 true))))
def marigraphlaw12_AggShift.j1 : Nat → Bool → Int → Int → List (S33) → List (S33) → Bool → Option (Bool)
  | 0, _, _, _, _, _, _ => none
  | k + 1, x9, x10, x11, x17, x19, x101 => if x101 = true then (some false) else (marigraphlaw12_AggShift.l1 k x9 x10 x11 x17 x19 (x17.length : Int) 0)
def marigraphlaw12_AggShift.l1 : Nat → Bool → Int → Int → List (S33) → List (S33) → Int → Int → Option (Bool)
  | 0, _, _, _, _, _, _, _ => none
  | k + 1, x9, x10, x11, x17, x19, x103, x104 => if x104 < x103 then (if 0 ≤ x104 then (if x104 < (x19.length : Int) then (if x104 < (x17.length : Int) then (if (!(((rd_T33 x19 x104).f0) == (wrap64 (((rd_T33 x17 x104).f0) + (wrap64 (x10 * x11))))) || (!(((rd_T33 x19 x104).f1) == ((rd_T33 x17 x104).f1)))) = true then (some false) else (marigraphlaw12_AggShift.l1 k x9 x10 x11 x17 x19 x103 (wrap64 (x104 + 1)))) else (none)) else (none)) else (none)) else (some x9)
end
def marigraphlaw12_AggShift.f (k : Nat) (l0 : List (S33)) (a1 : Int) (a2 : Int) (a3 : Int) : Option (Bool) := (marigraphlaw12_shown.f k).bind fun t388 => ((marigraphlaw12_few.f l0).bind fun t389 => (marigraphlaw12_AggShift.l0 k a3 t388 (wrap64 ((wrap64 (Int.tmod a1 1000)) + 1)) (wrap64 (Int.tmod a2 1000)) ([] : List (S33)) ([] : List (S33)) t389 (t389.length : Int) 0))
theorem marigraphlaw12_AggShift.mono_l : ∀ k, (∀ y0 y1 y2 y3 y4 y5 y6 y7 y8, LeO (marigraphlaw12_AggShift.l0 k y0 y1 y2 y3 y4 y5 y6 y7 y8) (marigraphlaw12_AggShift.l0 (k + 1) y0 y1 y2 y3 y4 y5 y6 y7 y8)) ∧ (∀ y0 y1 y2 y3 y4 y5, LeO (marigraphlaw12_AggShift.j1 k y0 y1 y2 y3 y4 y5) (marigraphlaw12_AggShift.j1 (k + 1) y0 y1 y2 y3 y4 y5)) ∧ (∀ y0 y1 y2 y3 y4 y5 y6, LeO (marigraphlaw12_AggShift.l1 k y0 y1 y2 y3 y4 y5 y6) (marigraphlaw12_AggShift.l1 (k + 1) y0 y1 y2 y3 y4 y5 y6))
  | 0 => ⟨fun _ _ _ _ _ _ _ _ _ r h => by simp [marigraphlaw12_AggShift.l0] at h, fun _ _ _ _ _ _ r h => by simp [marigraphlaw12_AggShift.j1] at h, fun _ _ _ _ _ _ _ r h => by simp [marigraphlaw12_AggShift.l1] at h⟩
  | k + 1 => by
    obtain ⟨ih0, ih1, ih2⟩ := marigraphlaw12_AggShift.mono_l k
    refine ⟨?_, ?_, ?_⟩
    · intro y0 y1 y2 y3 y4 y5 y6 y7 y8
      unfold marigraphlaw12_AggShift.l0
      repeat' first
      | (with_reducible exact ih0 _ _ _ _ _ _ _ _ _)
      | (with_reducible exact ih1 _ _ _ _ _ _)
      | (with_reducible exact ih2 _ _ _ _ _ _ _)
      | (with_reducible exact agg_Rollup.mono _ _ _ _)
      | (with_reducible exact marigraphlaw12_shown.mono _)
      | (with_reducible exact LeO.refl _)
      | (with_reducible exact LeO.none _)
      | (with_reducible refine LeO.ite ?_ ?_)
      | (with_reducible refine LeO.bind ?_ (fun _ => ?_))
      | exact ih0 _ _ _ _ _ _ _ _ _
      | exact ih1 _ _ _ _ _ _
      | exact ih2 _ _ _ _ _ _ _
      | exact agg_Rollup.mono _ _ _ _
      | exact marigraphlaw12_shown.mono _
      | exact LeO.none _
      | refine LeO.ite ?_ ?_
      | refine LeO.bind ?_ (fun _ => ?_)
    · intro y0 y1 y2 y3 y4 y5
      unfold marigraphlaw12_AggShift.j1
      repeat' first
      | (with_reducible exact ih0 _ _ _ _ _ _ _ _ _)
      | (with_reducible exact ih1 _ _ _ _ _ _)
      | (with_reducible exact ih2 _ _ _ _ _ _ _)
      | (with_reducible exact agg_Rollup.mono _ _ _ _)
      | (with_reducible exact marigraphlaw12_shown.mono _)
      | (with_reducible exact LeO.refl _)
      | (with_reducible exact LeO.none _)
      | (with_reducible refine LeO.ite ?_ ?_)
      | (with_reducible refine LeO.bind ?_ (fun _ => ?_))
      | exact ih0 _ _ _ _ _ _ _ _ _
      | exact ih1 _ _ _ _ _ _
      | exact ih2 _ _ _ _ _ _ _
      | exact agg_Rollup.mono _ _ _ _
      | exact marigraphlaw12_shown.mono _
      | exact LeO.none _
      | refine LeO.ite ?_ ?_
      | refine LeO.bind ?_ (fun _ => ?_)
    · intro y0 y1 y2 y3 y4 y5 y6
      unfold marigraphlaw12_AggShift.l1
      repeat' first
      | (with_reducible exact ih0 _ _ _ _ _ _ _ _ _)
      | (with_reducible exact ih1 _ _ _ _ _ _)
      | (with_reducible exact ih2 _ _ _ _ _ _ _)
      | (with_reducible exact agg_Rollup.mono _ _ _ _)
      | (with_reducible exact marigraphlaw12_shown.mono _)
      | (with_reducible exact LeO.refl _)
      | (with_reducible exact LeO.none _)
      | (with_reducible refine LeO.ite ?_ ?_)
      | (with_reducible refine LeO.bind ?_ (fun _ => ?_))
      | exact ih0 _ _ _ _ _ _ _ _ _
      | exact ih1 _ _ _ _ _ _
      | exact ih2 _ _ _ _ _ _ _
      | exact agg_Rollup.mono _ _ _ _
      | exact marigraphlaw12_shown.mono _
      | exact LeO.none _
      | refine LeO.ite ?_ ?_
      | refine LeO.bind ?_ (fun _ => ?_)
theorem marigraphlaw12_AggShift.mono : ∀ a0 a1 a2 a3 k, LeO (marigraphlaw12_AggShift.f k a0 a1 a2 a3) (marigraphlaw12_AggShift.f (k + 1) a0 a1 a2 a3) := by
  intro a0 a1 a2 a3 k
  obtain ⟨ih0, ih1, ih2⟩ := marigraphlaw12_AggShift.mono_l k
  unfold marigraphlaw12_AggShift.f
  repeat' first
      | (with_reducible exact ih0 _ _ _ _ _ _ _ _ _)
      | (with_reducible exact ih1 _ _ _ _ _ _)
      | (with_reducible exact ih2 _ _ _ _ _ _ _)
      | (with_reducible exact agg_Rollup.mono _ _ _ _)
      | (with_reducible exact marigraphlaw12_shown.mono _)
      | (with_reducible exact LeO.refl _)
      | (with_reducible exact LeO.none _)
      | (with_reducible refine LeO.ite ?_ ?_)
      | (with_reducible refine LeO.bind ?_ (fun _ => ?_))
      | exact ih0 _ _ _ _ _ _ _ _ _
      | exact ih1 _ _ _ _ _ _
      | exact ih2 _ _ _ _ _ _ _
      | exact agg_Rollup.mono _ _ _ _
      | exact marigraphlaw12_shown.mono _
      | exact LeO.none _
      | refine LeO.ite ?_ ?_
      | refine LeO.bind ?_ (fun _ => ?_)
def marigraphlaw12_AggShift.T9 : Bool × List (List Nat × List Nat) := (true, [([], []), ([], []), ([], []), ([2], [2]), ([1, 3], [1, 3]), ([4], [4]), ([0, 5], [0, 5]), ([], []), ([], []), ([], []), ([], []), ([9, 10], [9, 10]), ([8, 11], [8, 11]), ([], []), ([13], [13]), ([12, 14], [12, 14]), ([15], [15]), ([7, 16, 6], [7, 16]), ([6, 17, 0, 1, 2, 3, 4, 5, 6], [0, 6]), ([17, 18, 0, 1, 2, 3, 4, 5, 6, 7, 8, 9, 10, 11, 12, 13, 14, 15, 16, 17, 18], [7, 17])])
def marigraphlaw12_AggShift.B9 : List Nat := [0, 0, 0, 4, 14, 30, 63, 0, 0, 0, 0, 1536, 3840, 0, 8192, 32512, 65280, 131071, 262143, 524287]
theorem marigraphlaw12_AggShift.tab9 : rtab .any (opsOf Try.f14 9) = marigraphlaw12_AggShift.T9 := by kernel_rfl
theorem marigraphlaw12_AggShift.bits9 : waitsOk marigraphlaw12_AggShift.T9.2 marigraphlaw12_AggShift.B9 = true := by kernel_rfl
def marigraphlaw12_AggShift.T18 : Bool × List (List Nat × List Nat) := (true, [([], []), ([], []), ([0, 1], [0, 1]), ([2], [2]), ([], []), ([], []), ([4, 5], [4, 5]), ([6], [6]), ([7], [7]), ([], []), ([], []), ([9, 10], [9, 10]), ([8, 11], [8, 11]), ([], []), ([], []), ([13, 14], [13, 14]), ([15], [15]), ([16], [16]), ([12, 17], [12, 17]), ([3, 18], [3, 18])])
def marigraphlaw12_AggShift.B18 : List Nat := [0, 0, 3, 7, 0, 0, 48, 112, 240, 0, 0, 1536, 4080, 0, 0, 24576, 57344, 122880, 262128, 524287]
theorem marigraphlaw12_AggShift.tab18 : rtab .any (opsOf Try.f14 18) = marigraphlaw12_AggShift.T18 := by kernel_rfl
theorem marigraphlaw12_AggShift.bits18 : waitsOk marigraphlaw12_AggShift.T18.2 marigraphlaw12_AggShift.B18 = true := by kernel_rfl
set_option maxHeartbeats 8000000 in
set_option maxRecDepth 100000 in
theorem marigraphlaw12_AggShift.calls (k : Nat) (A0 : Option Addr) (c0 : Nat) (l0 : List (S33)) (a1 : Int) (a2 : Int) (a3 : Int) (r : Bool) (w : World) (hr0 : Kd.C k33 w A0 l0.length l0) (hc0 : l0.length ≤ c0) (h : marigraphlaw12_AggShift.f k l0 a1 a2 a3 = some r) :
    Calls Try.prog 14 #[.slice A0 l0.length c0, .int .u16 a1, .int .u16 a2, .int .u8 a3] w fun e w' => e = .returned (.bool r) ∧ Below w.heap.size w w' := by
  have hu33 := Try.underlying33
  have HR0 := Aside0.mk hr0
  have HC0 := Aside0.mk hc0
  clear hr0 hc0
  have HB := Aside0.mk (Below.refl w.heap.size w)
  have H : ((marigraphlaw12_shown.f k).bind fun t388 => ((marigraphlaw12_few.f l0).bind fun t389 => (marigraphlaw12_AggShift.l0 k a3 t388 (wrap64 ((wrap64 (Int.tmod a1 1000)) + 1)) (wrap64 (Int.tmod a2 1000)) ([] : List (S33)) ([] : List (S33)) t389 (t389.length : Int) 0))) = some r := h
  clear h
  replace H := Option.bind_eq_some_iff.mp H
  obtain ⟨t388, A50, H⟩ := H
  replace H : ((marigraphlaw12_few.f l0).bind fun t389 => (marigraphlaw12_AggShift.l0 k a3 t388 (wrap64 ((wrap64 (Int.tmod a1 1000)) + 1)) (wrap64 (Int.tmod a2 1000)) ([] : List (S33)) ([] : List (S33)) t389 (t389.length : Int) 0)) = some r := H
  have A5 := Aside0.mk A50
  clear A50
  replace H := Option.bind_eq_some_iff.mp H
  obtain ⟨t389, A60, H⟩ := H
  replace H : (marigraphlaw12_AggShift.l0 k a3 t388 (wrap64 ((wrap64 (Int.tmod a1 1000)) + 1)) (wrap64 (Int.tmod a2 1000)) ([] : List (S33)) ([] : List (S33)) t389 (t389.length : Int) 0) = some r := H
  have A6 := Aside0.mk A60
  clear A60
  have H' := Aside0.mk H
  clear H
  go_enter Try.func14, Try.ntmps14
  go_wp2_with (first | ((with_reducible refine gate_callee (f := 28) rfl ?_); refine goesL_ (some 22) rfl rfl Try.func28 (by kernel_rfl) rfl #[] rfl (by (try simp only [List.map_toArray, List.map_cons, List.map_nil]); first | done | rfl | (simp only [List.length_drop, List.length_take]; rfl)) ?_; (with_reducible refine (marigraphlaw12_shown.calls k  t388 _ A5.out).mono ?_); rintro e w7 ⟨rfl, hb⟩; refine ⟨_, rfl, ?_⟩; have n0_ := Aside0.mk (below_step (by repeat (first | (with_reducible first | exact HB.out | apply below_alloc | apply pw_below_drewN | apply below_drew1) | exact HB.out)) hb); clear HB; have HB := n0_; clear n0_; (try clear hb); (try clear hb2); (try clear hk); (try clear hi)) | ((with_reducible refine gate_callee (f := 30) rfl ?_); refine goesL_ (some 31) rfl rfl Try.func30 (by kernel_rfl) rfl #[.slice A0 l0.length c0] rfl (by (try simp only [List.map_toArray, List.map_cons, List.map_nil]); first | done | rfl | (simp only [List.length_drop, List.length_take]; rfl)) ?_; (with_reducible refine (marigraphlaw12_few.calls (fun k_ => k_ < w.heap.size) _ _ l0 t389 _ ?side1 A6.out).mono ?_); (case side1 => exact Kd.V_mk HC0.out (Kd.F_below (Kd.C_F k33_heap HR0.out) (by repeat (first | (with_reducible first | exact HB.out | apply below_alloc | apply pw_below_drewN | apply below_drew1) | exact HB.out)))); rintro e w8 ⟨v390, rfl, ho0, hb⟩; refine ⟨_, rfl, ?_⟩; have n0_ := Aside0.mk (Kd.V_lower (Kd.V_mono (ok' := fun k_ => True) ho0 (fun k_ hk_ => trivial)) (below_size (by repeat (first | (with_reducible first | exact HB.out | apply below_alloc | apply pw_below_drewN | apply below_drew1) | exact HB.out)))); have n1_ := Aside0.mk (below_step (by repeat (first | (with_reducible first | exact HB.out | apply below_alloc | apply pw_below_drewN | apply below_drew1) | exact HB.out)) hb); clear HB; have HO391 := n0_; have HB := n1_; clear n0_ n1_; (try clear hb); (try clear hb2); (try clear hk); (try clear hi); (try clear ho0); obtain ⟨Ao9, co9, eo9⟩ := Kd.V_slice HO391.out; subst eo9))
  go_loopg [12, 13, 33] k (fun kq v12 v13 v33 w' => ∃ (x12_1 : List (S33)) (x13_1 : List (S33)) (x33_1 : Int), v33 = .int .i64 x33_1 ∧ Aside0 (marigraphlaw12_AggShift.l0 kq a3 t388 (wrap64 ((wrap64 (Int.tmod a1 1000)) + 1)) (wrap64 (Int.tmod a2 1000)) x12_1 x13_1 t389 (t389.length : Int) x33_1 = some r) ∧ Aside0 (kq ≤ k) ∧ Aside0 (Kd.R k33 33 w' w.heap.size (fun k_ => some k_ ≠ (v13 : Value).ownBlock) v12 x12_1) ∧ Aside0 (Kd.R k33 33 w' w.heap.size (fun k_ => some k_ ≠ (v12 : Value).ownBlock) v13 x13_1) ∧ Aside0 (Kd.V k33 33 w' w.heap.size (fun k_ => some k_ ≠ (v12 : Value).ownBlock ∧ some k_ ≠ (v13 : Value).ownBlock) (.slice Ao9 t389.length co9) t389) ∧ Aside0 (Below w.heap.size w w'))
  case atStart => exact ⟨(([] : List (S33))), (([] : List (S33))), (0), (by first | rfl | (simp; done) | (simp [*]; done) | (simp <;> grind)), H', ⟨Nat.le_refl _⟩, ⟨by first | exact Kd.R_nil _ _ _ _ _ | exact Kd.N_nil _ _ _ _ _ | exact Kd.V_nil _ _ _ _ _ | exact Kd.Q_nil _ _ _ _ _ | exact Kd.S_nil _ _ _ _ _⟩, ⟨by first | exact Kd.R_nil _ _ _ _ _ | exact Kd.N_nil _ _ _ _ _ | exact Kd.V_nil _ _ _ _ _ | exact Kd.Q_nil _ _ _ _ _ | exact Kd.S_nil _ _ _ _ _⟩, ⟨by (with_reducible repeat (first | apply Kd.V_alloc | apply Kd.V_drewN | apply Kd.V_drew)); exact Kd.V_mono HO391.out (fun _ hk => ⟨(by simp [Value.ownBlock]), (by simp [Value.ownBlock])⟩)⟩, ⟨by repeat (first | (with_reducible first | exact HB.out | apply below_alloc | apply pw_below_drewN | apply below_drew1) | exact HB.out)⟩⟩
  case round =>
    clear H'
    try clear c1
    try clear c2
    try clear p2
    try clear c3
    try clear p6
    obtain ⟨x12_1, x13_1, x33_1, rfl, HA, HK1, HO_12, HO_13, HO_31, HB⟩ := hrel
    cases gk with
    | zero => exact absurd HA.out (by simp [marigraphlaw12_AggShift.l0])
    | succ k1 =>
      have H := HA.out
      clear HA
      simp only [marigraphlaw12_AggShift.l0] at H
      by_cases c10 : x33_1 < (t389.length : Int)
      · rw [if_pos c10] at H
        have c10b0 : decide (x33_1 < (t389.length : Int)) = true := decide_eq_true c10
        clear c10
        by_cases c11 : 0 ≤ x33_1
        · rw [if_pos c11] at H
          have c11b0 : decide (0 ≤ x33_1) = true := decide_eq_true c11
          clear c11
          by_cases c12 : x33_1 < (t389.length : Int)
          · rw [if_pos c12] at H
            have c12b0 : decide (x33_1 < (t389.length : Int)) = true := decide_eq_true c12
            clear c12
            by_cases c13 : (x12_1.length : Int) > 0
            · rw [if_pos c13] at H
              have c13b0 : decide (0 < (x12_1.length : Int)) = true := decide_eq_true c13
              have c13b1 : decide (0 < x12_1.length) = true := decide_eq_true (by omega)
              clear c13
              obtain ⟨ji14, hji14⟩ : ∃ j_ : Int, (wrap64 ((x12_1.length : Int) - 1)) = j_ := ⟨_, rfl⟩
              replace H : (if 0 ≤ (ji14) then (if (ji14) < (x12_1.length : Int) then (if (Int.tmod ((rd_T33 t389 x33_1).f0) 1099511627776) ≤ ((rd_T33 x12_1 (ji14)).f0) then (marigraphlaw12_AggShift.l0 k1 a3 t388 (wrap64 ((wrap64 (Int.tmod a1 1000)) + 1)) (wrap64 (Int.tmod a2 1000)) x12_1 x13_1 t389 (t389.length : Int) (wrap64 (x33_1 + 1))) else ((some (([(⟨Int.tmod ((rd_T33 t389 x33_1).f0) 1099511627776, (rd_T33 t389 x33_1).f1⟩ : S33)] : List (S33)) : List (S33))).bind fun y395 => (if x12_1.length + y395.length < 8796093022208 then ((some (([(⟨wrap64 ((Int.tmod ((rd_T33 t389 x33_1).f0) 1099511627776) + (wrap64 ((wrap64 ((wrap64 (Int.tmod a1 1000)) + 1)) * (wrap64 (Int.tmod a2 1000))))), (rd_T33 t389 x33_1).f1⟩ : S33)] : List (S33)) : List (S33))).bind fun y401 => (if x13_1.length + y401.length < 8796093022208 then (marigraphlaw12_AggShift.l0 k1 a3 t388 (wrap64 ((wrap64 (Int.tmod a1 1000)) + 1)) (wrap64 (Int.tmod a2 1000)) (x12_1 ++ y395) (x13_1 ++ y401) t389 (t389.length : Int) (wrap64 (x33_1 + 1))) else (none))) else (none)))) else (none)) else (none)) = some r := by first | (rw [hji14] at H; exact H) | (simp only [hji14] at H ⊢; exact H)
              have hji14w : (IntKind.i64.wrap ((x12_1.length : Int) - 1)) = ji14 := (i64_w _).trans hji14
              by_cases c15 : 0 ≤ (ji14)
              · rw [if_pos c15] at H
                have c15b0 : decide (0 ≤ (ji14)) = true := decide_eq_true c15
                clear c15
                by_cases c16 : (ji14) < (x12_1.length : Int)
                · rw [if_pos c16] at H
                  have c16b0 : decide ((ji14) < (x12_1.length : Int)) = true := decide_eq_true c16
                  clear c16
                  by_cases c17 : (Int.tmod ((rd_T33 t389 x33_1).f0) 1099511627776) ≤ ((rd_T33 x12_1 (ji14)).f0)
                  · rw [if_pos c17] at H
                    have c17b0 : decide ((Int.tmod ((rd_T33 t389 x33_1).f0) 1099511627776) ≤ ((rd_T33 x12_1 (ji14)).f0)) = true := decide_eq_true c17
                    clear c17
                    have H' := Aside0.mk H
                    clear H
                    have p392 : 0 ≤ (x33_1 : Int) := of_decide_eq_true (by first | (with_reducible assumption) | assumption)
                    have q392 : x33_1 < (t389.length : Int) := of_decide_eq_true (by first | (with_reducible assumption) | assumption)
                    obtain ⟨ad392, e392, hx392_0, hx392_1⟩ := at_T33 (Kd.V_reads' HO_31.out).2.2 x33_1 p392 q392
                    cases e392
                    replace p392 := eq_true p392
                    replace q392 := eq_true q392
                    go_wp2_with (first | ((with_reducible refine gate_dst (N := 15) rfl ?_); (try (refine gate_guard (by rfl) ?_; dsimp only)); refine box_event ?hg (N := 15) ?hd (cs := #[.int .i64 0, .int .i64 0]) (t := 33) ?hr ?_; (case hd => rfl); (case hg => rfl); (case hr => first | (go_simp; done) | (go_simp; rfl)); intro gb393 hg w18 hbox hb; have n0_ := Aside0.mk (Kd.R_below (Kd.R_elderB (by (with_reducible repeat (first | apply Kd.R_alloc | apply Kd.R_drewN | apply Kd.R_drew)); exact HO_12.out) gb393 (Nat.le_of_eq hg.symm)) hb); have n1_ := Aside0.mk (Kd.R_below (Kd.R_elderB (by (with_reducible repeat (first | apply Kd.R_alloc | apply Kd.R_drewN | apply Kd.R_drew)); exact HO_13.out) gb393 (Nat.le_of_eq hg.symm)) hb); have n2_ := Aside0.mk (Kd.V_below (Kd.V_elderB (by (with_reducible repeat (first | apply Kd.V_alloc | apply Kd.V_drewN | apply Kd.V_drew)); exact HO_31.out) gb393 (Nat.le_of_eq hg.symm)) hb); have n3_ := Aside0.mk (below_step (by repeat (first | (with_reducible first | exact HB.out | apply below_alloc | apply pw_below_drewN | apply below_drew1) | exact HB.out)) hb); have n4_ := Aside0.mk (hbox); have n5_ := Aside0.mk ((by rw [hg]; exact (below_size (by repeat (first | (with_reducible first | exact HB.out | apply below_alloc | apply pw_below_drewN | apply below_drew1) | exact HB.out))) : w.heap.size ≤ gb393)); have n6_ := Aside0.mk ((by rw [hg]; exact (below_size (by repeat (first | (with_reducible first | exact HB.out | apply below_alloc | apply pw_below_drewN | apply below_drew1) | exact HB.out))) : w.heap.size ≤ gb393)); clear HO_12; clear HO_13; clear HO_31; clear HB; have HO_12 := n0_; have HO_13 := n1_; have HO_31 := n2_; have HB := n3_; have BK393 := n4_; have GW393 := n5_; have GE393 := n6_; clear n0_ n1_ n2_ n3_ n4_ n5_ n6_; clear hb hbox hg; have hcz19_0 : w18.cell? ⟨gb393, 0, none⟩ = some (.int .i64 0) := (blk_cell BK393.out 0).trans rfl; have hcz19_1 : w18.cell? ⟨gb393, 1, none⟩ = some (.int .i64 0) := (blk_cell BK393.out 1).trans rfl; have hfz19_0 := blk_frozen BK393.out 0; have hfz19_1 := blk_frozen BK393.out 1; obtain ⟨Ao20, co20, eo20⟩ := Kd.R_slice HO_12.out; subst eo20; have p394 : 0 ≤ ((ji14) : Int) := of_decide_eq_true (by first | (with_reducible assumption) | assumption); have q394 : (ji14) < (x12_1.length : Int) := of_decide_eq_true (by first | (with_reducible assumption) | assumption); obtain ⟨ad394, e394, hx394_0, hx394_1⟩ := at_T33 (Kd.R_reads' HO_12.out).2.2 (ji14) p394 q394; cases e394; have hn394_0 : ad394.block ≠ gb393 := Kd.own_blk (Kd.R_away HO_12.out (fun _ hk => hk.2)); have hn394_1 : ad394.block ≠ gb393 := Kd.own_blk (Kd.R_away HO_12.out (fun _ hk => hk.2)); replace hx394_0 := (cell_far (p := ⟨gb393, 0, none⟩) (by first | (rw [add_block]; exact hn394_0) | (show (Addr.add _ _).block ≠ _; rw [add_block]; exact hn394_0) | exact hn394_0) (.int .i64 ((rd_T33 t389 x33_1).f0))).trans hx394_0; replace hx394_1 := (cell_far (p := ⟨gb393, 0, none⟩) (by first | (rw [add_block]; exact hn394_0) | (show (Addr.add _ _).block ≠ _; rw [add_block]; exact hn394_0) | exact hn394_0) (.int .i64 ((rd_T33 t389 x33_1).f0))).trans hx394_1; replace hx394_0 := (cell_far (p := ⟨gb393, 1, none⟩) (by first | (rw [add_block]; exact hn394_1) | (show (Addr.add _ _).block ≠ _; rw [add_block]; exact hn394_1) | exact hn394_1) (.int .i64 ((rd_T33 t389 x33_1).f1))).trans hx394_0; replace hx394_1 := (cell_far (p := ⟨gb393, 1, none⟩) (by first | (rw [add_block]; exact hn394_1) | (show (Addr.add _ _).block ≠ _; rw [add_block]; exact hn394_1) | exact hn394_1) (.int .i64 ((rd_T33 t389 x33_1).f1))).trans hx394_1; clear hn394_0; clear hn394_1; replace p394 := eq_true p394; replace q394 := eq_true q394))
                    go_roundg k1
                    case measure => have := HK1.out; omega
                    case rel => exact ⟨(x12_1), (x13_1), (wrap64 (x33_1 + 1)), (by first | rfl | (simp; done) | (simp [*]; done) | (simp <;> grind)), (by first | exact H' | (simp only [hji14]; exact H')), ⟨by have := HK1.out; omega⟩, ⟨by (with_reducible repeat (first | apply Kd.R_alloc | apply Kd.R_drewN | apply Kd.R_drew)); exact Kd.R_mono (Kd.R_far (p := ⟨gb393, 1, none⟩) (Kd.R_far (p := ⟨gb393, 0, none⟩) (Kd.R_mono HO_12.out (fun k_ hk => (⟨hk, hk.2⟩ : _ ∧ k_ ≠ gb393))) (fun _ hk => hk.2) (.int .i64 ((rd_T33 t389 x33_1).f0))) (fun _ hk => hk.2) (.int .i64 ((rd_T33 t389 x33_1).f1))) (fun _ hk => hk.1.1)⟩, ⟨by (with_reducible repeat (first | apply Kd.R_alloc | apply Kd.R_drewN | apply Kd.R_drew)); exact Kd.R_mono (Kd.R_far (p := ⟨gb393, 1, none⟩) (Kd.R_far (p := ⟨gb393, 0, none⟩) (Kd.R_mono HO_13.out (fun k_ hk => (⟨hk, hk.2⟩ : _ ∧ k_ ≠ gb393))) (fun _ hk => hk.2) (.int .i64 ((rd_T33 t389 x33_1).f0))) (fun _ hk => hk.2) (.int .i64 ((rd_T33 t389 x33_1).f1))) (fun _ hk => hk.1.1)⟩, ⟨by (with_reducible repeat (first | apply Kd.V_alloc | apply Kd.V_drewN | apply Kd.V_drew)); exact Kd.V_mono (Kd.V_far (p := ⟨gb393, 1, none⟩) (Kd.V_far (p := ⟨gb393, 0, none⟩) (Kd.V_mono HO_31.out (fun k_ hk => (⟨hk, hk.2⟩ : _ ∧ k_ ≠ gb393))) (fun _ hk => hk.2) (.int .i64 ((rd_T33 t389 x33_1).f0))) (fun _ hk => hk.2) (.int .i64 ((rd_T33 t389 x33_1).f1))) (fun _ hk => ⟨hk.1.1.1, hk.1.1.2⟩)⟩, ⟨by repeat (first | (with_reducible first | exact HB.out | apply below_alloc | apply pw_below_drewN | apply below_drew1 | refine below_set ?_ GE393.out) | exact HB.out)⟩⟩
                  · rw [if_neg c17] at H
                    have c17b0 : decide ((Int.tmod ((rd_T33 t389 x33_1).f0) 1099511627776) ≤ ((rd_T33 x12_1 (ji14)).f0)) = false := decide_eq_false c17
                    clear c17
                    obtain ⟨y395, hy395⟩ : ∃ y_ : List (S33), y_ = (([(⟨Int.tmod ((rd_T33 t389 x33_1).f0) 1099511627776, (rd_T33 t389 x33_1).f1⟩ : S33)] : List (S33))) := ⟨_, rfl⟩
                    replace H : (if x12_1.length + y395.length < 8796093022208 then ((some (([(⟨wrap64 ((Int.tmod ((rd_T33 t389 x33_1).f0) 1099511627776) + (wrap64 ((wrap64 ((wrap64 (Int.tmod a1 1000)) + 1)) * (wrap64 (Int.tmod a2 1000))))), (rd_T33 t389 x33_1).f1⟩ : S33)] : List (S33)) : List (S33))).bind fun y401 => (if x13_1.length + y401.length < 8796093022208 then (marigraphlaw12_AggShift.l0 k1 a3 t388 (wrap64 ((wrap64 (Int.tmod a1 1000)) + 1)) (wrap64 (Int.tmod a2 1000)) (x12_1 ++ y395) (x13_1 ++ y401) t389 (t389.length : Int) (wrap64 (x33_1 + 1))) else (none))) else (none)) = some r := by first | (rw [hy395]; with_reducible exact H) | (have H2_ := (Option.bind_some _ _).symm.trans H; rw [hy395]; with_reducible exact H2_) | (have H2_ := (Option.bind_some _ _).symm.trans H; with_reducible exact H2_) | with_reducible exact H | (rw [hy395]; exact H) | exact H
                    have Ny395 := Aside0.mk hy395
                    clear hy395
                    by_cases c21 : x12_1.length + y395.length < 8796093022208
                    · rw [if_pos c21] at H
                      have LMc21 := Aside0.mk c21
                      clear c21
                      obtain ⟨y398, hy398⟩ : ∃ y_ : List (S33), y_ = (x12_1 ++ y395) := ⟨_, rfl⟩
                      replace H : ((some (([(⟨wrap64 ((Int.tmod ((rd_T33 t389 x33_1).f0) 1099511627776) + (wrap64 ((wrap64 ((wrap64 (Int.tmod a1 1000)) + 1)) * (wrap64 (Int.tmod a2 1000))))), (rd_T33 t389 x33_1).f1⟩ : S33)] : List (S33)) : List (S33))).bind fun y401 => (if x13_1.length + y401.length < 8796093022208 then (marigraphlaw12_AggShift.l0 k1 a3 t388 (wrap64 ((wrap64 (Int.tmod a1 1000)) + 1)) (wrap64 (Int.tmod a2 1000)) y398 (x13_1 ++ y401) t389 (t389.length : Int) (wrap64 (x33_1 + 1))) else (none))) = some r := by first | (rw [hy398]; with_reducible exact H) | (have H2_ := (Option.bind_some _ _).symm.trans H; rw [hy398]; with_reducible exact H2_) | (have H2_ := (Option.bind_some _ _).symm.trans H; with_reducible exact H2_) | with_reducible exact H | (rw [hy398]; exact H) | exact H
                      have Ny398 := Aside0.mk hy398
                      clear hy398
                      obtain ⟨y401, hy401⟩ : ∃ y_ : List (S33), y_ = (([(⟨wrap64 ((Int.tmod ((rd_T33 t389 x33_1).f0) 1099511627776) + (wrap64 ((wrap64 ((wrap64 (Int.tmod a1 1000)) + 1)) * (wrap64 (Int.tmod a2 1000))))), (rd_T33 t389 x33_1).f1⟩ : S33)] : List (S33))) := ⟨_, rfl⟩
                      replace H : (if x13_1.length + y401.length < 8796093022208 then (marigraphlaw12_AggShift.l0 k1 a3 t388 (wrap64 ((wrap64 (Int.tmod a1 1000)) + 1)) (wrap64 (Int.tmod a2 1000)) y398 (x13_1 ++ y401) t389 (t389.length : Int) (wrap64 (x33_1 + 1))) else (none)) = some r := by first | (rw [hy401]; with_reducible exact H) | (have H2_ := (Option.bind_some _ _).symm.trans H; rw [hy401]; with_reducible exact H2_) | (have H2_ := (Option.bind_some _ _).symm.trans H; with_reducible exact H2_) | with_reducible exact H | (rw [hy401]; exact H) | exact H
                      have Ny401 := Aside0.mk hy401
                      clear hy401
                      by_cases c22 : x13_1.length + y401.length < 8796093022208
                      · rw [if_pos c22] at H
                        have LMc22 := Aside0.mk c22
                        clear c22
                        obtain ⟨y404, hy404⟩ : ∃ y_ : List (S33), y_ = (x13_1 ++ y401) := ⟨_, rfl⟩
                        replace H : (marigraphlaw12_AggShift.l0 k1 a3 t388 (wrap64 ((wrap64 (Int.tmod a1 1000)) + 1)) (wrap64 (Int.tmod a2 1000)) y398 y404 t389 (t389.length : Int) (wrap64 (x33_1 + 1))) = some r := by first | (rw [hy404]; with_reducible exact H) | (have H2_ := (Option.bind_some _ _).symm.trans H; rw [hy404]; with_reducible exact H2_) | (have H2_ := (Option.bind_some _ _).symm.trans H; with_reducible exact H2_) | with_reducible exact H | (rw [hy404]; exact H) | exact H
                        have Ny404 := Aside0.mk hy404
                        clear hy404
                        have H' := Aside0.mk H
                        clear H
                        have p392 : 0 ≤ (x33_1 : Int) := of_decide_eq_true (by first | (with_reducible assumption) | assumption)
                        have q392 : x33_1 < (t389.length : Int) := of_decide_eq_true (by first | (with_reducible assumption) | assumption)
                        obtain ⟨ad392, e392, hx392_0, hx392_1⟩ := at_T33 (Kd.V_reads' HO_31.out).2.2 x33_1 p392 q392
                        cases e392
                        replace p392 := eq_true p392
                        replace q392 := eq_true q392
                        try go_wp2_with (first | ((with_reducible refine gate_dst (N := 15) rfl ?_); (try (refine gate_guard (by rfl) ?_; dsimp only)); refine box_event ?hg (N := 15) ?hd (cs := #[.int .i64 0, .int .i64 0]) (t := 33) ?hr ?_; (case hd => rfl); (case hg => rfl); (case hr => first | (go_simp; done) | (go_simp; rfl)); intro gb393 hg w23 hbox hb; have n0_ := Aside0.mk (Kd.R_below (Kd.R_elderB (by (with_reducible repeat (first | apply Kd.R_alloc | apply Kd.R_drewN | apply Kd.R_drew)); exact HO_12.out) gb393 (Nat.le_of_eq hg.symm)) hb); have n1_ := Aside0.mk (Kd.R_below (Kd.R_elderB (by (with_reducible repeat (first | apply Kd.R_alloc | apply Kd.R_drewN | apply Kd.R_drew)); exact HO_13.out) gb393 (Nat.le_of_eq hg.symm)) hb); have n2_ := Aside0.mk (Kd.V_below (Kd.V_elderB (by (with_reducible repeat (first | apply Kd.V_alloc | apply Kd.V_drewN | apply Kd.V_drew)); exact HO_31.out) gb393 (Nat.le_of_eq hg.symm)) hb); have n3_ := Aside0.mk (below_step (by repeat (first | (with_reducible first | exact HB.out | apply below_alloc | apply pw_below_drewN | apply below_drew1) | exact HB.out)) hb); have n4_ := Aside0.mk (hbox); have n5_ := Aside0.mk ((by rw [hg]; exact (below_size (by repeat (first | (with_reducible first | exact HB.out | apply below_alloc | apply pw_below_drewN | apply below_drew1) | exact HB.out))) : w.heap.size ≤ gb393)); have n6_ := Aside0.mk ((by rw [hg]; exact (below_size (by repeat (first | (with_reducible first | exact HB.out | apply below_alloc | apply pw_below_drewN | apply below_drew1) | exact HB.out))) : w.heap.size ≤ gb393)); clear HO_12; clear HO_13; clear HO_31; clear HB; have HO_12 := n0_; have HO_13 := n1_; have HO_31 := n2_; have HB := n3_; have BK393 := n4_; have GW393 := n5_; have GE393 := n6_; clear n0_ n1_ n2_ n3_ n4_ n5_ n6_; clear hb hbox hg; have hcz24_0 : w23.cell? ⟨gb393, 0, none⟩ = some (.int .i64 0) := (blk_cell BK393.out 0).trans rfl; have hcz24_1 : w23.cell? ⟨gb393, 1, none⟩ = some (.int .i64 0) := (blk_cell BK393.out 1).trans rfl; have hfz24_0 := blk_frozen BK393.out 0; have hfz24_1 := blk_frozen BK393.out 1; obtain ⟨Ao25, co25, eo25⟩ := Kd.R_slice HO_12.out; subst eo25; have p394 : 0 ≤ ((ji14) : Int) := of_decide_eq_true (by first | (with_reducible assumption) | assumption); have q394 : (ji14) < (x12_1.length : Int) := of_decide_eq_true (by first | (with_reducible assumption) | assumption); obtain ⟨ad394, e394, hx394_0, hx394_1⟩ := at_T33 (Kd.R_reads' HO_12.out).2.2 (ji14) p394 q394; cases e394; have hn394_0 : ad394.block ≠ gb393 := Kd.own_blk (Kd.R_away HO_12.out (fun _ hk => hk.2)); have hn394_1 : ad394.block ≠ gb393 := Kd.own_blk (Kd.R_away HO_12.out (fun _ hk => hk.2)); replace hx394_0 := (cell_far (p := ⟨gb393, 0, none⟩) (by first | (rw [add_block]; exact hn394_0) | (show (Addr.add _ _).block ≠ _; rw [add_block]; exact hn394_0) | exact hn394_0) (.int .i64 ((rd_T33 t389 x33_1).f0))).trans hx394_0; replace hx394_1 := (cell_far (p := ⟨gb393, 0, none⟩) (by first | (rw [add_block]; exact hn394_0) | (show (Addr.add _ _).block ≠ _; rw [add_block]; exact hn394_0) | exact hn394_0) (.int .i64 ((rd_T33 t389 x33_1).f0))).trans hx394_1; replace hx394_0 := (cell_far (p := ⟨gb393, 1, none⟩) (by first | (rw [add_block]; exact hn394_1) | (show (Addr.add _ _).block ≠ _; rw [add_block]; exact hn394_1) | exact hn394_1) (.int .i64 ((rd_T33 t389 x33_1).f1))).trans hx394_0; replace hx394_1 := (cell_far (p := ⟨gb393, 1, none⟩) (by first | (rw [add_block]; exact hn394_1) | (show (Addr.add _ _).block ≠ _; rw [add_block]; exact hn394_1) | exact hn394_1) (.int .i64 ((rd_T33 t389 x33_1).f1))).trans hx394_1; clear hn394_0; clear hn394_1; replace p394 := eq_true p394; replace q394 := eq_true q394; obtain ⟨Ao26, co26, eo26⟩ := Kd.R_slice HO_13.out; subst eo26))
                        have n0_ : Aside0 (Kd.R k33 33 ((w23.setCell ⟨gb393, 0, none⟩ (.int .i64 ((rd_T33 t389 x33_1).f0))).setCell ⟨gb393, 1, none⟩ (.int .i64 ((rd_T33 t389 x33_1).f1))) w.heap.size (fun k_ => some k_ ≠ (.slice Ao26 x13_1.length co26 : Value).ownBlock ∧ k_ ≠ gb393) (.slice (some ad394) x12_1.length co25) x12_1) := ⟨by (with_reducible repeat (first | apply Kd.R_alloc | apply Kd.R_drewN | apply Kd.R_drew)); exact Kd.R_mono (Kd.R_far (p := ⟨gb393, 1, none⟩) (Kd.R_far (p := ⟨gb393, 0, none⟩) (Kd.R_mono HO_12.out (fun k_ hk => (⟨hk, hk.2⟩ : _ ∧ k_ ≠ gb393))) (fun _ hk => hk.2) (.int .i64 ((rd_T33 t389 x33_1).f0))) (fun _ hk => hk.2) (.int .i64 ((rd_T33 t389 x33_1).f1))) (fun _ hk => ⟨hk.1.1, hk.1.2⟩)⟩
                        have n1_ : Aside0 (Kd.R k33 33 ((w23.setCell ⟨gb393, 0, none⟩ (.int .i64 ((rd_T33 t389 x33_1).f0))).setCell ⟨gb393, 1, none⟩ (.int .i64 ((rd_T33 t389 x33_1).f1))) w.heap.size (fun k_ => some k_ ≠ (.slice (some ad394) x12_1.length co25 : Value).ownBlock ∧ k_ ≠ gb393) (.slice Ao26 x13_1.length co26) x13_1) := ⟨by (with_reducible repeat (first | apply Kd.R_alloc | apply Kd.R_drewN | apply Kd.R_drew)); exact Kd.R_mono (Kd.R_far (p := ⟨gb393, 1, none⟩) (Kd.R_far (p := ⟨gb393, 0, none⟩) (Kd.R_mono HO_13.out (fun k_ hk => (⟨hk, hk.2⟩ : _ ∧ k_ ≠ gb393))) (fun _ hk => hk.2) (.int .i64 ((rd_T33 t389 x33_1).f0))) (fun _ hk => hk.2) (.int .i64 ((rd_T33 t389 x33_1).f1))) (fun _ hk => ⟨hk.1.1, hk.1.2⟩)⟩
                        have n2_ : Aside0 (Kd.V k33 33 ((w23.setCell ⟨gb393, 0, none⟩ (.int .i64 ((rd_T33 t389 x33_1).f0))).setCell ⟨gb393, 1, none⟩ (.int .i64 ((rd_T33 t389 x33_1).f1))) w.heap.size (fun k_ => some k_ ≠ (.slice (some ad394) x12_1.length co25 : Value).ownBlock ∧ some k_ ≠ (.slice Ao26 x13_1.length co26 : Value).ownBlock ∧ k_ ≠ gb393) (.slice (some ad392) t389.length co9) t389) := ⟨by (with_reducible repeat (first | apply Kd.V_alloc | apply Kd.V_drewN | apply Kd.V_drew)); exact Kd.V_mono (Kd.V_far (p := ⟨gb393, 1, none⟩) (Kd.V_far (p := ⟨gb393, 0, none⟩) (Kd.V_mono HO_31.out (fun k_ hk => (⟨hk, hk.2⟩ : _ ∧ k_ ≠ gb393))) (fun _ hk => hk.2) (.int .i64 ((rd_T33 t389 x33_1).f0))) (fun _ hk => hk.2) (.int .i64 ((rd_T33 t389 x33_1).f1))) (fun _ hk => ⟨hk.1.1.1, ⟨hk.1.1.2, hk.1.2⟩⟩)⟩
                        have n3_ : Aside0 (((w23.setCell ⟨gb393, 0, none⟩ (.int .i64 ((rd_T33 t389 x33_1).f0))).setCell ⟨gb393, 1, none⟩ (.int .i64 ((rd_T33 t389 x33_1).f1))).heap[gb393]? = some (.cells #[.int .i64 ((rd_T33 t389 x33_1).f0), .int .i64 ((rd_T33 t389 x33_1).f1)] 33 (0, 0))) := ⟨by (with_reducible repeat (first | refine blk_drewN ?_ _ | refine blk_drew ?_ | refine blk_alloc ?_ _)); refine blk_put (cs := #[.int .i64 ((rd_T33 t389 x33_1).f0), .int .i64 0]) ?_ 1 _ rfl; (with_reducible repeat (first | refine blk_drewN ?_ _ | refine blk_drew ?_ | refine blk_alloc ?_ _)); refine blk_put (cs := #[.int .i64 0, .int .i64 0]) ?_ 0 _ rfl; (with_reducible repeat (first | refine blk_drewN ?_ _ | refine blk_drew ?_ | refine blk_alloc ?_ _)); exact BK393.out⟩
                        have n4_ : Aside0 (Below w.heap.size w ((w23.setCell ⟨gb393, 0, none⟩ (.int .i64 ((rd_T33 t389 x33_1).f0))).setCell ⟨gb393, 1, none⟩ (.int .i64 ((rd_T33 t389 x33_1).f1)))) := ⟨by repeat (first | (with_reducible first | exact HB.out | apply below_alloc | apply pw_below_drewN | apply below_drew1 | refine below_set ?_ GE393.out) | exact HB.out)⟩
                        (try clear HO_12)
                        (try clear HO_13)
                        (try clear HO_31)
                        (try clear BK393)
                        (try clear HB)
                        generalize ((w23.setCell ⟨gb393, 0, none⟩ (.int .i64 ((rd_T33 t389 x33_1).f0))).setCell ⟨gb393, 1, none⟩ (.int .i64 ((rd_T33 t389 x33_1).f1))) = w27 at n0_ n1_ n2_ n3_ n4_ ⊢
                        have HO_12 := n0_
                        have HO_13 := n1_
                        have HO_31 := n2_
                        have BK393 := n3_
                        have HB := n4_
                        clear n0_ n1_ n2_ n3_ n4_
                        have n0_ := Aside0.mk (Kd.R_drew HO_12.out)
                        have n1_ := Aside0.mk (Kd.R_drew HO_13.out)
                        have n2_ := Aside0.mk (Kd.V_drew HO_31.out)
                        have n3_ := Aside0.mk (blk_drew BK393.out)
                        have n4_ := Aside0.mk (below_drew1 HB.out)
                        clear HO_12
                        clear HO_13
                        clear HO_31
                        clear BK393
                        clear HB
                        have HO_12 := n0_
                        have HO_13 := n1_
                        have HO_31 := n2_
                        have BK393 := n3_
                        have HB := n4_
                        clear n0_ n1_ n2_ n3_ n4_
                        refine start_ (n := 20) (S := fun w' => w'.cell? ⟨gb393, 0, none⟩ = some (.int .i64 ((rd_T33 t389 x33_1).f0)) ∧ w'.cell? ⟨gb393, 1, none⟩ = some (.int .i64 ((rd_T33 t389 x33_1).f1))) (ds := []) #[false, false, false, false, false, false, false, false, false, false, false, false, false, false, false, false, false, false, false, false] (by kernel_rfl) rfl rfl ⟨(blk_cell BK393.out 0).trans rfl, (blk_cell BK393.out 1).trans rfl⟩ (fun hHeld => ?_); refine with_tabW marigraphlaw12_AggShift.tab9 marigraphlaw12_AggShift.bits9 (fun HT_ HW_ => ?_)
                        generalize w27.drew = w28 at HO_12 HO_13 HO_31 BK393 HB hHeld ⊢
                        refine pure_ (i := 0) (N := some 54) (v := ?_) (a' := ?_) #[true, false, false, false, false, false, false, false, false, false, false, false, false, false, false, false, false, false, false, false] rfl rfl (any_of HT_.out (by kernel_rfl)) (fun _ _ _ h => h) (Or.inl ⟨by rfl, ?_⟩) ?_ ?_
                        rotate_left
                        · intro w'
                          go_simp
                          with_reducible rfl
                        rotate_left
                        · simp only [Act.put, List.setIfInBounds_toArray, List.set_cons_zero, List.set_cons_succ, i64_w, i32_w]
                          rfl
                        refine pure_ (i := 1) (N := some 55) (v := ?_) (a' := ?_) #[true, true, false, false, false, false, false, false, false, false, false, false, false, false, false, false, false, false, false, false] rfl rfl (any_of HT_.out (by kernel_rfl)) (fun _ _ _ h => h) (Or.inl ⟨by rfl, ?_⟩) ?_ ?_
                        rotate_left
                        · intro w'
                          go_simp
                          with_reducible rfl
                        rotate_left
                        · simp only [Act.put, List.setIfInBounds_toArray, List.set_cons_zero, List.set_cons_succ, i64_w, i32_w]
                          rfl
                        refine pure_ (i := 2) (N := some 56) (v := ?_) (a' := ?_) #[true, true, true, false, false, false, false, false, false, false, false, false, false, false, false, false, false, false, false, false] rfl rfl (any_of HT_.out (by kernel_rfl)) (fun _ _ _ h => h) (Or.inl ⟨by rfl, ?_⟩) ?_ ?_
                        rotate_left
                        · intro w'
                          go_simp
                          with_reducible rfl
                        rotate_left
                        · simp only [Act.put, List.setIfInBounds_toArray, List.set_cons_zero, List.set_cons_succ, i64_w, i32_w]
                          rfl
                        refine pure_ (i := 7) (N := some 61) (v := ?_) (a' := ?_) #[true, true, true, false, false, false, false, true, false, false, false, false, false, false, false, false, false, false, false, false] rfl rfl (any_of HT_.out (by kernel_rfl)) (fun _ _ _ h => h) (Or.inl ⟨by rfl, ?_⟩) ?_ ?_
                        rotate_left
                        · intro w'
                          go_simp
                          with_reducible rfl
                        rotate_left
                        · simp only [Act.put, List.setIfInBounds_toArray, List.set_cons_zero, List.set_cons_succ, i64_w, i32_w]
                          rfl
                        refine pure_ (i := 8) (N := some 62) (v := ?_) (a' := ?_) #[true, true, true, false, false, false, false, true, true, false, false, false, false, false, false, false, false, false, false, false] rfl rfl (any_of HT_.out (by kernel_rfl)) (fun _ _ _ h => h) (Or.inl ⟨by rfl, ?_⟩) ?_ ?_
                        rotate_left
                        · intro w'
                          go_simp
                          with_reducible rfl
                        rotate_left
                        · simp only [Act.put, List.setIfInBounds_toArray, List.set_cons_zero, List.set_cons_succ, i64_w, i32_w]
                          rfl
                        refine pure_ (i := 9) (N := some 63) (v := ?_) (a' := ?_) #[true, true, true, false, false, false, false, true, true, true, false, false, false, false, false, false, false, false, false, false] rfl rfl (any_of HT_.out (by kernel_rfl)) (fun _ _ _ h => h) (Or.inl ⟨by rfl, ?_⟩) ?_ ?_
                        rotate_left
                        · intro w'
                          go_simp
                          with_reducible rfl
                        rotate_left
                        · simp only [Act.put, List.setIfInBounds_toArray, List.set_cons_zero, List.set_cons_succ, i64_w, i32_w]
                          rfl
                        refine pure_ (i := 10) (N := some 64) (v := ?_) (a' := ?_) #[true, true, true, false, false, false, false, true, true, true, true, false, false, false, false, false, false, false, false, false] rfl rfl (any_of HT_.out (by kernel_rfl)) (fun _ _ _ h => h) (Or.inl ⟨by rfl, ?_⟩) ?_ ?_
                        rotate_left
                        · intro w'
                          go_simp
                          with_reducible rfl
                        rotate_left
                        · simp only [Act.put, List.setIfInBounds_toArray, List.set_cons_zero, List.set_cons_succ, i64_w, i32_w]
                          rfl
                        refine pure_ (i := 11) (N := some 65) (v := ?_) (a' := ?_) #[true, true, true, false, false, false, false, true, true, true, true, true, false, false, false, false, false, false, false, false] rfl rfl (any_of HT_.out (by kernel_rfl)) (fun _ _ _ h => h) (Or.inl ⟨by rfl, ?_⟩) ?_ ?_
                        rotate_left
                        · intro w'
                          go_simp
                          with_reducible rfl
                        rotate_left
                        · simp only [Act.put, List.setIfInBounds_toArray, List.set_cons_zero, List.set_cons_succ, i64_w, i32_w]
                          rfl
                        refine pure_ (i := 12) (N := some 66) (v := ?_) (a' := ?_) #[true, true, true, false, false, false, false, true, true, true, true, true, true, false, false, false, false, false, false, false] rfl rfl (any_of HT_.out (by kernel_rfl)) (fun _ _ _ h => h) (Or.inl ⟨by rfl, ?_⟩) ?_ ?_
                        rotate_left
                        · intro w'
                          go_simp
                          with_reducible rfl
                        rotate_left
                        · simp only [Act.put, List.setIfInBounds_toArray, List.set_cons_zero, List.set_cons_succ, i64_w, i32_w]
                          rfl
                        refine pure_ (i := 13) (N := some 67) (v := ?_) (a' := ?_) #[true, true, true, false, false, false, false, true, true, true, true, true, true, true, false, false, false, false, false, false] rfl rfl (any_of HT_.out (by kernel_rfl)) (fun _ _ _ h => h) (Or.inl ⟨by rfl, ?_⟩) ?_ ?_
                        rotate_left
                        · intro w'
                          go_simp
                          with_reducible rfl
                        rotate_left
                        · simp only [Act.put, List.setIfInBounds_toArray, List.set_cons_zero, List.set_cons_succ, i64_w, i32_w]
                          rfl
                        refine take_ (i := 3) (N := some 57) (v := ?_) (a' := ?_) #[true, true, true, true, false, false, false, true, true, true, true, true, true, true, false, false, false, false, false, false] rfl rfl (take_ofW HT_.out HW_.out (by kernel_rfl)) (fun _ _ _ h => h) (Or.inl ⟨by rfl, ?_⟩) hHeld ?_ ?_
                        rotate_left
                        · rintro w' ⟨s0, s1⟩
                          go_simp
                          with_reducible rfl
                        rotate_left
                        · simp only [Act.put, List.setIfInBounds_toArray, List.set_cons_zero, List.set_cons_succ, i64_w, i32_w]
                          rfl
                        refine pure_ (i := 4) (N := some 58) (v := ?_) (a' := ?_) #[true, true, true, true, true, false, false, true, true, true, true, true, true, true, false, false, false, false, false, false] rfl rfl (any_of HT_.out (by kernel_rfl)) (fun _ _ _ h => h) (Or.inl ⟨by rfl, ?_⟩) ?_ ?_
                        rotate_left
                        · intro w'
                          go_simp
                          with_reducible rfl
                        rotate_left
                        · simp only [Act.put, List.setIfInBounds_toArray, List.set_cons_zero, List.set_cons_succ, i64_w, i32_w]
                          rfl
                        refine take_ (i := 14) (N := some 68) (v := ?_) (a' := ?_) #[true, true, true, true, true, false, false, true, true, true, true, true, true, true, true, false, false, false, false, false] rfl rfl (take_ofW HT_.out HW_.out (by kernel_rfl)) (fun _ _ _ h => h) (Or.inl ⟨by rfl, ?_⟩) hHeld ?_ ?_
                        rotate_left
                        · rintro w' ⟨s0, s1⟩
                          go_simp
                          with_reducible rfl
                        rotate_left
                        · simp only [Act.put, List.setIfInBounds_toArray, List.set_cons_zero, List.set_cons_succ, i64_w, i32_w]
                          rfl
                        refine pure_ (i := 15) (N := some 69) (v := ?_) (a' := ?_) #[true, true, true, true, true, false, false, true, true, true, true, true, true, true, true, true, false, false, false, false] rfl rfl (any_of HT_.out (by kernel_rfl)) (fun _ _ _ h => h) (Or.inl ⟨by rfl, ?_⟩) ?_ ?_
                        rotate_left
                        · intro w'
                          go_simp
                          with_reducible rfl
                        rotate_left
                        · simp only [Act.put, List.setIfInBounds_toArray, List.set_cons_zero, List.set_cons_succ, i64_w, i32_w]
                          rfl
                        refine join_ (σ := Value × Value × Value) 3 #[true, true, true, true, true, true, true, true, true, true, true, true, true, true, true, true, true, false, false, false] (fun s_ => [(59, s_.1), (60, s_.2.1), (70, s_.2.2)]) (fun s_ w' => (w'.cell? ⟨gb393, 0, none⟩ = some (.int .i64 ((rd_T33 t389 x33_1).f0)) ∧ w'.cell? ⟨gb393, 1, none⟩ = some (.int .i64 ((rd_T33 t389 x33_1).f1))) ∧ (Kd.R k33 33 w' w.heap.size (fun k_ => some k_ ≠ (s_.2.1 : Value).ownBlock ∧ some k_ ≠ (s_.2.2 : Value).ownBlock ∧ some k_ ≠ (.slice Ao26 x13_1.length co26 : Value).ownBlock ∧ k_ ≠ gb393) s_.1 y395) ∧ (Kd.R k33 33 w' w.heap.size (fun k_ => some k_ ≠ (s_.1 : Value).ownBlock ∧ some k_ ≠ (s_.2.2 : Value).ownBlock ∧ some k_ ≠ (.slice Ao26 x13_1.length co26 : Value).ownBlock ∧ k_ ≠ gb393) s_.2.1 y398) ∧ (Kd.R k33 33 w' w.heap.size (fun k_ => some k_ ≠ (s_.1 : Value).ownBlock ∧ some k_ ≠ (s_.2.1 : Value).ownBlock ∧ some k_ ≠ (.slice Ao26 x13_1.length co26 : Value).ownBlock ∧ k_ ≠ gb393) s_.2.2 y401) ∧ (Kd.R k33 33 w' w.heap.size (fun k_ => some k_ ≠ (s_.1 : Value).ownBlock ∧ some k_ ≠ (s_.2.1 : Value).ownBlock ∧ some k_ ≠ (s_.2.2 : Value).ownBlock ∧ k_ ≠ gb393) (.slice Ao26 x13_1.length co26) x13_1) ∧ (Kd.V k33 33 w' w.heap.size (fun k_ => some k_ ≠ (s_.1 : Value).ownBlock ∧ some k_ ≠ (s_.2.1 : Value).ownBlock ∧ some k_ ≠ (s_.2.2 : Value).ownBlock ∧ some k_ ≠ (.slice Ao26 x13_1.length co26 : Value).ownBlock ∧ k_ ≠ gb393) (.slice (some ad392) t389.length co9) t389) ∧ (w'.heap[gb393]? = some (.cells #[.int .i64 ((rd_T33 t389 x33_1).f0), .int .i64 ((rd_T33 t389 x33_1).f1)] 33 (0, 0))) ∧ (Below w.heap.size w w')) ?_ ?_
                        rotate_left
                        · intro hCont
                          refine two_ (i := 5) (j := 16) (Ni := some 59) (Nj := some 70) #[true, true, true, true, true, true, false, true, true, true, true, true, true, true, true, true, false, false, false, false] #[true, true, true, true, true, false, false, true, true, true, true, true, true, true, true, true, true, false, false, false] rfl rfl rfl rfl (two_of HT_.out (by kernel_rfl)) (by decide) (by decide) (fun K hK => ?_) (fun K hK => ?_)
                          · skip
                            refine Kd.R_lit_step k33 _ 33 ?hg (N := 59) ?hd (xs := ([(⟨Int.tmod ((rd_T33 t389 x33_1).f0) 1099511627776, (rd_T33 t389 x33_1).f1⟩ : S33)] : List (S33))) (inner := [.int .i64 (Int.tmod ((rd_T33 t389 x33_1).f0) 1099511627776), .int .i64 ((rd_T33 t389 x33_1).f1)]) (ok := fun _ => True) (okp := fun _ => True) ?hr ?hp (fun _ hk => hk) trivial (Below.refl _ _) (Nat.le_refl _) (by simp) ?_; (case hd => rfl); (case hg => rfl); (case hr => first | (go_simp; done) | (go_simp; rfl)); (case hp => exact (Reps.c2 (show Kd.M k33 _ _ _ (⟨Int.tmod ((rd_T33 t389 x33_1).f0) 1099511627776, (rd_T33 t389 x33_1).f1⟩ : S33) [.int .i64 (Int.tmod ((rd_T33 t389 x33_1).f0) 1099511627776), .int .i64 ((rd_T33 t389 x33_1).f1)] from (k33_mkM _ _ _ (⟨Int.tmod ((rd_T33 t389 x33_1).f0) 1099511627776, (rd_T33 t389 x33_1).f1⟩ : S33) )) (Reps.none _ _)))
                            intro v396 w29 ho30 hb hg_ hnew_
                            clear hg_ hnew_
                            (first | rw [← Ny395.out] at ho30 | (simp only [Int.reduceToNat] at ho30; rw [← Ny395.out] at ho30))
                            have n0_ := Aside0.mk (Kd.R_elder' (by (with_reducible repeat (first | apply Kd.R_alloc | apply Kd.R_drewN | apply Kd.R_drew)); exact HO_12.out) (Kd.R_base ho30) hb)
                            have n1_ := Aside0.mk (Kd.R_elder' (by (with_reducible repeat (first | apply Kd.R_alloc | apply Kd.R_drewN | apply Kd.R_drew)); exact HO_13.out) (Kd.R_base ho30) hb)
                            have n2_ := Aside0.mk (Kd.V_elder' (by (with_reducible repeat (first | apply Kd.V_alloc | apply Kd.V_drewN | apply Kd.V_drew)); exact HO_31.out) (Kd.R_base ho30) hb)
                            have n3_ := Aside0.mk (Kd.R_lower (Kd.R_newB (Kd.R_new' (Kd.R_new' ho30 (Kd.R_lt (by (with_reducible repeat (first | apply Kd.R_alloc | apply Kd.R_drewN | apply Kd.R_drew)); exact HO_12.out))) (Kd.R_lt (by (with_reducible repeat (first | apply Kd.R_alloc | apply Kd.R_drewN | apply Kd.R_drew)); exact HO_13.out))) (g := gb393) (o := .cells #[.int .i64 ((rd_T33 t389 x33_1).f0), .int .i64 ((rd_T33 t389 x33_1).f1)] 33 (0, 0)) (by (with_reducible repeat (first | refine blk_drewN ?_ _ | refine blk_drew ?_ | refine blk_alloc ?_ _)); exact BK393.out)) (below_size (by repeat (first | (with_reducible first | exact HB.out | apply below_alloc | apply pw_below_drewN | apply below_drew1 | refine below_set ?_ GE393.out) | exact HB.out))))
                            have n4_ := Aside0.mk (blk_below (g := gb393) (o := .cells #[.int .i64 ((rd_T33 t389 x33_1).f0), .int .i64 ((rd_T33 t389 x33_1).f1)] 33 (0, 0)) (by (with_reducible repeat (first | refine blk_drewN ?_ _ | refine blk_drew ?_ | refine blk_alloc ?_ _)); exact BK393.out) hb)
                            have n5_ := Aside0.mk (below_step (by repeat (first | (with_reducible first | exact HB.out | apply below_alloc | apply pw_below_drewN | apply below_drew1 | refine below_set ?_ GE393.out) | exact HB.out)) hb)
                            clear HO_12
                            clear HO_13
                            clear HO_31
                            clear BK393
                            clear HB
                            have HO_12 := n0_
                            have HO_13 := n1_
                            have HO_31 := n2_
                            have HO397 := n3_
                            have BK393 := n4_
                            have HB := n5_
                            clear n0_ n1_ n2_ n3_ n4_ n5_
                            clear hb ho30
                            obtain ⟨Ao32, co32, eo32⟩ := Kd.R_slice HO397.out
                            (first | subst eo32 | (injection eo32 with f1_ f2_ f3_; have f4_ := f1_.symm; have f5_ := f3_.symm; clear f1_ f2_ f3_; subst f4_; subst f5_))
                            refine hK.out _ _ ⟨(blk_cell BK393.out 0).trans rfl, (blk_cell BK393.out 1).trans rfl⟩ (fun hHeld => ?_)
                            clear hK K
                            refine norm_ (a' := ?_) ?_ ?_
                            rotate_left
                            · show Act.put _ (some 59) _ = _
                              simp only [Act.put, List.setIfInBounds_toArray, List.set_cons_zero, List.set_cons_succ, i64_w, i32_w]
                              rfl
                            refine two_ (i := 6) (j := 16) (Ni := some 60) (Nj := some 70) #[true, true, true, true, true, true, true, true, true, true, true, true, true, true, true, true, false, false, false, false] #[true, true, true, true, true, true, false, true, true, true, true, true, true, true, true, true, true, false, false, false] rfl rfl rfl rfl (two_of HT_.out (by kernel_rfl)) (by decide) (by decide) (fun K hK => ?_) (fun K hK => ?_)
                            · skip
                              refine Kd.R_append_rows_step k33 (w0 := w) w.heap.size (by rfl) (.tmp 54) (.tmp 59) 30 33 (.agg #[(.int .i64 0), (.int .i64 0)]) 16 rfl Try.underlying30 info33 rfl (by decide) (by omega) (.slice (some ad394) x12_1.length co25) x12_1 y395 _ _ _ (fun k_ => some k_ ≠ (.slice Ao26 x13_1.length co26 : Value).ownBlock ∧ some k_ ≠ (.slice Ao32 y395.length co32 : Value).ownBlock ∧ k_ ≠ gb393) (fun _ => False) rfl rfl ?aO ?aR (fun _ _ h => h) (fun _ h => h.elim) ?aF ?aB ?aS ?aL ?_
                              (case aR => repeat (first | exact (Kd.R_reads' HO397.out).2.2 | (with_reducible refine Kd.C_alloc ?_ _) | (with_reducible refine Kd.C_drewN ?_ _) | (with_reducible refine Kd.C_drew ?_)))
                              (case aB => exact (by repeat (first | (with_reducible first | exact HB.out | apply below_alloc | apply pw_below_drewN | apply below_drew1 | refine below_set ?_ GE393.out) | exact HB.out)))
                              (case aF => exact (fun k_ hk => ⟨Kd.fresh' (Kd.R_lt (by (with_reducible repeat (first | apply Kd.R_alloc | apply Kd.R_drewN | apply Kd.R_drew)); exact HO_13.out)) k_ hk, Kd.fresh' (Kd.R_lt (by (with_reducible repeat (first | apply Kd.R_alloc | apply Kd.R_drewN | apply Kd.R_drew)); exact HO397.out)) k_ hk, Kd.freshB (g := gb393) (o := .cells #[.int .i64 ((rd_T33 t389 x33_1).f0), .int .i64 ((rd_T33 t389 x33_1).f1)] 33 (0, 0)) (by (with_reducible repeat (first | refine blk_drewN ?_ _ | refine blk_drew ?_ | refine blk_alloc ?_ _)); exact BK393.out) k_ hk⟩))
                              (case aO => exact (by (with_reducible repeat (first | apply Kd.R_alloc | apply Kd.R_drewN | apply Kd.R_drew)); exact Kd.R_mono HO_12.out (fun _ hk => ⟨hk.1.1, ⟨hk.2, hk.1.2⟩⟩)))
                              (case aS => exact (below_size (by repeat (first | (with_reducible first | exact HB.out | apply below_alloc | apply pw_below_drewN | apply below_drew1 | refine below_set ?_ GE393.out) | exact HB.out))))
                              (case aL => have := LMc21.out; omega)
                              intro v399 w31 ho hb hg hat
                              rw [← Ny398.out] at ho
                              have n0_ := Aside0.mk (Kd.R_after (ok := (fun k_ => some k_ ≠ (.slice Ao32 y395.length co32 : Value).ownBlock ∧ k_ ≠ gb393)) (by (with_reducible repeat (first | apply Kd.R_alloc | apply Kd.R_drewN | apply Kd.R_drew)); exact Kd.R_mono HO_13.out (fun _ hk => ⟨⟨hk.2, hk.1.2⟩, hk.1.1⟩)) hg hat)
                              have n1_ := Aside0.mk (Kd.V_afterv (ok := (fun k_ => some k_ ≠ (.slice Ao26 x13_1.length co26 : Value).ownBlock ∧ some k_ ≠ (.slice Ao32 y395.length co32 : Value).ownBlock ∧ k_ ≠ gb393)) (by (with_reducible repeat (first | apply Kd.V_alloc | apply Kd.V_drewN | apply Kd.V_drew)); exact Kd.V_mono HO_31.out (fun _ hk => ⟨⟨hk.1.2.1, ⟨hk.2, hk.1.2.2⟩⟩, hk.1.1⟩)) hg hat)
                              have n2_ := Aside0.mk (blk_grown (g := gb393) (o := .cells #[.int .i64 ((rd_T33 t389 x33_1).f0), .int .i64 ((rd_T33 t389 x33_1).f1)] 33 (0, 0)) (by (with_reducible repeat (first | refine blk_drewN ?_ _ | refine blk_drew ?_ | refine blk_alloc ?_ _)); exact BK393.out) hg (Kd.R_away HO_12.out (fun _ hk => hk.1.2)))
                              have n3_ := Aside0.mk (Kd.R_after (ok := (fun k_ => some k_ ≠ (.slice Ao26 x13_1.length co26 : Value).ownBlock ∧ k_ ≠ gb393)) (by (with_reducible repeat (first | apply Kd.R_alloc | apply Kd.R_drewN | apply Kd.R_drew)); exact Kd.R_mono HO397.out (fun _ hk => ⟨⟨hk.1.2, hk.2⟩, hk.1.1.2⟩)) hg hat)
                              have n4_ := Aside0.mk (hb)
                              have n5_ := Aside0.mk (ho)
                              clear HO_13
                              clear HO_31
                              clear BK393
                              clear HO397
                              clear HB
                              clear HO_12
                              have HO_13 := n0_
                              have HO_31 := n1_
                              have BK393 := n2_
                              have HO397 := n3_
                              have HB := n4_
                              have HO400 := n5_
                              clear n0_ n1_ n2_ n3_ n4_ n5_
                              clear ho hb hg hat
                              refine hK.out _ _ ⟨(blk_cell BK393.out 0).trans rfl, (blk_cell BK393.out 1).trans rfl⟩ (fun hHeld => ?_)
                              clear hK K
                              refine norm_ (a' := ?_) ?_ ?_
                              rotate_left
                              · show Act.put _ (some 60) _ = _
                                simp only [Act.put, List.setIfInBounds_toArray, List.set_cons_zero, List.set_cons_succ, i64_w, i32_w]
                                rfl
                              refine one_ (i := 16) (N := some 70) #[true, true, true, true, true, true, true, true, true, true, true, true, true, true, true, true, true, false, false, false] rfl rfl (one_of HT_.out (by kernel_rfl)) (by decide) (fun K hK => ?_)
                              refine Kd.R_lit_step k33 _ 33 ?hg (N := 70) ?hd (xs := ([(⟨wrap64 ((Int.tmod ((rd_T33 t389 x33_1).f0) 1099511627776) + (wrap64 ((wrap64 ((wrap64 (Int.tmod a1 1000)) + 1)) * (wrap64 (Int.tmod a2 1000))))), (rd_T33 t389 x33_1).f1⟩ : S33)] : List (S33))) (inner := [.int .i64 (wrap64 ((Int.tmod ((rd_T33 t389 x33_1).f0) 1099511627776) + (wrap64 ((wrap64 ((wrap64 (Int.tmod a1 1000)) + 1)) * (wrap64 (Int.tmod a2 1000)))))), .int .i64 ((rd_T33 t389 x33_1).f1)]) (ok := fun _ => True) (okp := fun _ => True) ?hr ?hp (fun _ hk => hk) trivial (Below.refl _ _) (Nat.le_refl _) (by simp) ?_; (case hd => rfl); (case hg => rfl); (case hr => first | (go_simp; done) | (go_simp; rfl)); (case hp => exact (Reps.c2 (show Kd.M k33 _ _ _ (⟨wrap64 ((Int.tmod ((rd_T33 t389 x33_1).f0) 1099511627776) + (wrap64 ((wrap64 ((wrap64 (Int.tmod a1 1000)) + 1)) * (wrap64 (Int.tmod a2 1000))))), (rd_T33 t389 x33_1).f1⟩ : S33) [.int .i64 (wrap64 ((Int.tmod ((rd_T33 t389 x33_1).f0) 1099511627776) + (wrap64 ((wrap64 ((wrap64 (Int.tmod a1 1000)) + 1)) * (wrap64 (Int.tmod a2 1000)))))), .int .i64 ((rd_T33 t389 x33_1).f1)] from (k33_mkM _ _ _ (⟨wrap64 ((Int.tmod ((rd_T33 t389 x33_1).f0) 1099511627776) + (wrap64 ((wrap64 ((wrap64 (Int.tmod a1 1000)) + 1)) * (wrap64 (Int.tmod a2 1000))))), (rd_T33 t389 x33_1).f1⟩ : S33) )) (Reps.none _ _)))
                              intro v402 w33 ho34 hb hg_ hnew_
                              clear hg_ hnew_
                              (first | rw [← Ny401.out] at ho34 | (simp only [Int.reduceToNat] at ho34; rw [← Ny401.out] at ho34))
                              have n0_ := Aside0.mk (Kd.R_elder' (by (with_reducible repeat (first | apply Kd.R_alloc | apply Kd.R_drewN | apply Kd.R_drew)); exact HO_13.out) (Kd.R_base ho34) hb)
                              have n1_ := Aside0.mk (Kd.V_elder' (by (with_reducible repeat (first | apply Kd.V_alloc | apply Kd.V_drewN | apply Kd.V_drew)); exact HO_31.out) (Kd.R_base ho34) hb)
                              have n2_ := Aside0.mk (Kd.R_elder' (by (with_reducible repeat (first | apply Kd.R_alloc | apply Kd.R_drewN | apply Kd.R_drew)); exact HO397.out) (Kd.R_base ho34) hb)
                              have n3_ := Aside0.mk (Kd.R_elder' (by (with_reducible repeat (first | apply Kd.R_alloc | apply Kd.R_drewN | apply Kd.R_drew)); exact HO400.out) (Kd.R_base ho34) hb)
                              have n4_ := Aside0.mk (Kd.R_lower (Kd.R_newB (Kd.R_new' (Kd.R_new' (Kd.R_new' ho34 (Kd.R_lt (by (with_reducible repeat (first | apply Kd.R_alloc | apply Kd.R_drewN | apply Kd.R_drew)); exact HO_13.out))) (Kd.R_lt (by (with_reducible repeat (first | apply Kd.R_alloc | apply Kd.R_drewN | apply Kd.R_drew)); exact HO397.out))) (Kd.R_lt (by (with_reducible repeat (first | apply Kd.R_alloc | apply Kd.R_drewN | apply Kd.R_drew)); exact HO400.out))) (g := gb393) (o := .cells #[.int .i64 ((rd_T33 t389 x33_1).f0), .int .i64 ((rd_T33 t389 x33_1).f1)] 33 (0, 0)) (by (with_reducible repeat (first | refine blk_drewN ?_ _ | refine blk_drew ?_ | refine blk_alloc ?_ _)); exact BK393.out)) (below_size (by repeat (first | (with_reducible first | exact HB.out | apply below_alloc | apply pw_below_drewN | apply below_drew1 | refine below_set ?_ GE393.out) | exact HB.out))))
                              have n5_ := Aside0.mk (blk_below (g := gb393) (o := .cells #[.int .i64 ((rd_T33 t389 x33_1).f0), .int .i64 ((rd_T33 t389 x33_1).f1)] 33 (0, 0)) (by (with_reducible repeat (first | refine blk_drewN ?_ _ | refine blk_drew ?_ | refine blk_alloc ?_ _)); exact BK393.out) hb)
                              have n6_ := Aside0.mk (below_step (by repeat (first | (with_reducible first | exact HB.out | apply below_alloc | apply pw_below_drewN | apply below_drew1 | refine below_set ?_ GE393.out) | exact HB.out)) hb)
                              clear HO_13
                              clear HO_31
                              clear HO397
                              clear HO400
                              clear BK393
                              clear HB
                              have HO_13 := n0_
                              have HO_31 := n1_
                              have HO397 := n2_
                              have HO400 := n3_
                              have HO403 := n4_
                              have BK393 := n5_
                              have HB := n6_
                              clear n0_ n1_ n2_ n3_ n4_ n5_ n6_
                              clear hb ho34
                              refine hK.out _ _ ⟨(blk_cell BK393.out 0).trans rfl, (blk_cell BK393.out 1).trans rfl⟩ (fun hHeld => ?_)
                              clear hK K
                              refine norm_ (a' := ?_) ?_ ?_
                              rotate_left
                              · show Act.put _ (some 70) _ = _
                                simp only [Act.put, List.setIfInBounds_toArray, List.set_cons_zero, List.set_cons_succ, i64_w, i32_w]
                                rfl
                              exact norm_ (by simp only [putAll, Act.put, List.setIfInBounds_toArray, List.set_cons_zero, List.set_cons_succ]) (hCont (.slice Ao32 y395.length co32, v399, v402) _ ⟨hHeld, (by (with_reducible repeat (first | apply Kd.R_alloc | apply Kd.R_drewN | apply Kd.R_drew)); exact Kd.R_mono HO397.out (fun _ hk => ⟨hk.1.2, ⟨hk.2, ⟨hk.1.1.1, hk.1.1.2⟩⟩⟩)), (by (with_reducible repeat (first | apply Kd.R_alloc | apply Kd.R_drewN | apply Kd.R_drew)); exact Kd.R_mono HO400.out (fun _ hk => ⟨hk.1.2.1, ⟨hk.2, ⟨hk.1.1, hk.1.2.2⟩⟩⟩)), (by (with_reducible repeat (first | apply Kd.R_alloc | apply Kd.R_drewN | apply Kd.R_drew)); exact Kd.R_mono HO403.out (fun _ hk => ⟨hk.1.1.2, ⟨hk.1.2, ⟨hk.1.1.1.2, hk.2⟩⟩⟩)), (by (with_reducible repeat (first | apply Kd.R_alloc | apply Kd.R_drewN | apply Kd.R_drew)); exact Kd.R_mono HO_13.out (fun _ hk => ⟨hk.1.1.1, ⟨hk.1.2, ⟨hk.2, hk.1.1.2⟩⟩⟩)), (by (with_reducible repeat (first | apply Kd.V_alloc | apply Kd.V_drewN | apply Kd.V_drew)); exact Kd.V_mono HO_31.out (fun _ hk => ⟨hk.1.1.2.1, ⟨hk.1.2, ⟨hk.2, ⟨hk.1.1.1, hk.1.1.2.2⟩⟩⟩⟩)), (by (with_reducible repeat (first | refine blk_drewN ?_ _ | refine blk_drew ?_ | refine blk_alloc ?_ _)); exact BK393.out), (by repeat (first | (with_reducible first | exact HB.out | apply below_alloc | apply pw_below_drewN | apply below_drew1 | refine below_set ?_ GE393.out) | exact HB.out))⟩)
                            · skip
                              refine Kd.R_lit_step k33 _ 33 ?hg (N := 70) ?hd (xs := ([(⟨wrap64 ((Int.tmod ((rd_T33 t389 x33_1).f0) 1099511627776) + (wrap64 ((wrap64 ((wrap64 (Int.tmod a1 1000)) + 1)) * (wrap64 (Int.tmod a2 1000))))), (rd_T33 t389 x33_1).f1⟩ : S33)] : List (S33))) (inner := [.int .i64 (wrap64 ((Int.tmod ((rd_T33 t389 x33_1).f0) 1099511627776) + (wrap64 ((wrap64 ((wrap64 (Int.tmod a1 1000)) + 1)) * (wrap64 (Int.tmod a2 1000)))))), .int .i64 ((rd_T33 t389 x33_1).f1)]) (ok := fun _ => True) (okp := fun _ => True) ?hr ?hp (fun _ hk => hk) trivial (Below.refl _ _) (Nat.le_refl _) (by simp) ?_; (case hd => rfl); (case hg => rfl); (case hr => first | (go_simp; done) | (go_simp; rfl)); (case hp => exact (Reps.c2 (show Kd.M k33 _ _ _ (⟨wrap64 ((Int.tmod ((rd_T33 t389 x33_1).f0) 1099511627776) + (wrap64 ((wrap64 ((wrap64 (Int.tmod a1 1000)) + 1)) * (wrap64 (Int.tmod a2 1000))))), (rd_T33 t389 x33_1).f1⟩ : S33) [.int .i64 (wrap64 ((Int.tmod ((rd_T33 t389 x33_1).f0) 1099511627776) + (wrap64 ((wrap64 ((wrap64 (Int.tmod a1 1000)) + 1)) * (wrap64 (Int.tmod a2 1000)))))), .int .i64 ((rd_T33 t389 x33_1).f1)] from (k33_mkM _ _ _ (⟨wrap64 ((Int.tmod ((rd_T33 t389 x33_1).f0) 1099511627776) + (wrap64 ((wrap64 ((wrap64 (Int.tmod a1 1000)) + 1)) * (wrap64 (Int.tmod a2 1000))))), (rd_T33 t389 x33_1).f1⟩ : S33) )) (Reps.none _ _)))
                              intro v402 w31 ho32 hb hg_ hnew_
                              clear hg_ hnew_
                              (first | rw [← Ny401.out] at ho32 | (simp only [Int.reduceToNat] at ho32; rw [← Ny401.out] at ho32))
                              have n0_ := Aside0.mk (Kd.R_elder' (by (with_reducible repeat (first | apply Kd.R_alloc | apply Kd.R_drewN | apply Kd.R_drew)); exact HO_12.out) (Kd.R_base ho32) hb)
                              have n1_ := Aside0.mk (Kd.R_elder' (by (with_reducible repeat (first | apply Kd.R_alloc | apply Kd.R_drewN | apply Kd.R_drew)); exact HO_13.out) (Kd.R_base ho32) hb)
                              have n2_ := Aside0.mk (Kd.V_elder' (by (with_reducible repeat (first | apply Kd.V_alloc | apply Kd.V_drewN | apply Kd.V_drew)); exact HO_31.out) (Kd.R_base ho32) hb)
                              have n3_ := Aside0.mk (Kd.R_elder' (by (with_reducible repeat (first | apply Kd.R_alloc | apply Kd.R_drewN | apply Kd.R_drew)); exact HO397.out) (Kd.R_base ho32) hb)
                              have n4_ := Aside0.mk (Kd.R_lower (Kd.R_newB (Kd.R_new' (Kd.R_new' (Kd.R_new' ho32 (Kd.R_lt (by (with_reducible repeat (first | apply Kd.R_alloc | apply Kd.R_drewN | apply Kd.R_drew)); exact HO_12.out))) (Kd.R_lt (by (with_reducible repeat (first | apply Kd.R_alloc | apply Kd.R_drewN | apply Kd.R_drew)); exact HO_13.out))) (Kd.R_lt (by (with_reducible repeat (first | apply Kd.R_alloc | apply Kd.R_drewN | apply Kd.R_drew)); exact HO397.out))) (g := gb393) (o := .cells #[.int .i64 ((rd_T33 t389 x33_1).f0), .int .i64 ((rd_T33 t389 x33_1).f1)] 33 (0, 0)) (by (with_reducible repeat (first | refine blk_drewN ?_ _ | refine blk_drew ?_ | refine blk_alloc ?_ _)); exact BK393.out)) (below_size (by repeat (first | (with_reducible first | exact HB.out | apply below_alloc | apply pw_below_drewN | apply below_drew1 | refine below_set ?_ GE393.out) | exact HB.out))))
                              have n5_ := Aside0.mk (blk_below (g := gb393) (o := .cells #[.int .i64 ((rd_T33 t389 x33_1).f0), .int .i64 ((rd_T33 t389 x33_1).f1)] 33 (0, 0)) (by (with_reducible repeat (first | refine blk_drewN ?_ _ | refine blk_drew ?_ | refine blk_alloc ?_ _)); exact BK393.out) hb)
                              have n6_ := Aside0.mk (below_step (by repeat (first | (with_reducible first | exact HB.out | apply below_alloc | apply pw_below_drewN | apply below_drew1 | refine below_set ?_ GE393.out) | exact HB.out)) hb)
                              clear HO_12
                              clear HO_13
                              clear HO_31
                              clear HO397
                              clear BK393
                              clear HB
                              have HO_12 := n0_
                              have HO_13 := n1_
                              have HO_31 := n2_
                              have HO397 := n3_
                              have HO403 := n4_
                              have BK393 := n5_
                              have HB := n6_
                              clear n0_ n1_ n2_ n3_ n4_ n5_ n6_
                              clear hb ho32
                              obtain ⟨Ao34, co34, eo34⟩ := Kd.R_slice HO397.out
                              (first | subst eo34 | (injection eo34 with f1_ f2_ f3_; have f4_ := f1_.symm; have f5_ := f3_.symm; clear f1_ f2_ f3_; subst f4_; subst f5_))
                              refine hK.out _ _ ⟨(blk_cell BK393.out 0).trans rfl, (blk_cell BK393.out 1).trans rfl⟩ (fun hHeld => ?_)
                              clear hK K
                              refine norm_ (a' := ?_) ?_ ?_
                              rotate_left
                              · show Act.put _ (some 70) _ = _
                                simp only [Act.put, List.setIfInBounds_toArray, List.set_cons_zero, List.set_cons_succ, i64_w, i32_w]
                                rfl
                              refine one_ (i := 6) (N := some 60) #[true, true, true, true, true, true, true, true, true, true, true, true, true, true, true, true, true, false, false, false] rfl rfl (one_of HT_.out (by kernel_rfl)) (by decide) (fun K hK => ?_)
                              refine Kd.R_append_rows_step k33 (w0 := w) w.heap.size (by rfl) (.tmp 54) (.tmp 59) 30 33 (.agg #[(.int .i64 0), (.int .i64 0)]) 16 rfl Try.underlying30 info33 rfl (by decide) (by omega) (.slice (some ad394) x12_1.length co25) x12_1 y395 _ _ _ (fun k_ => some k_ ≠ (.slice Ao26 x13_1.length co26 : Value).ownBlock ∧ some k_ ≠ (.slice Ao34 y395.length co34 : Value).ownBlock ∧ some k_ ≠ (v402 : Value).ownBlock ∧ k_ ≠ gb393) (fun _ => False) rfl rfl ?aO ?aR (fun _ _ h => h) (fun _ h => h.elim) ?aF ?aB ?aS ?aL ?_
                              (case aR => repeat (first | exact (Kd.R_reads' HO397.out).2.2 | (with_reducible refine Kd.C_alloc ?_ _) | (with_reducible refine Kd.C_drewN ?_ _) | (with_reducible refine Kd.C_drew ?_)))
                              (case aB => exact (by repeat (first | (with_reducible first | exact HB.out | apply below_alloc | apply pw_below_drewN | apply below_drew1 | refine below_set ?_ GE393.out) | exact HB.out)))
                              (case aF => exact (fun k_ hk => ⟨Kd.fresh' (Kd.R_lt (by (with_reducible repeat (first | apply Kd.R_alloc | apply Kd.R_drewN | apply Kd.R_drew)); exact HO_13.out)) k_ hk, Kd.fresh' (Kd.R_lt (by (with_reducible repeat (first | apply Kd.R_alloc | apply Kd.R_drewN | apply Kd.R_drew)); exact HO397.out)) k_ hk, Kd.fresh' (Kd.R_lt (by (with_reducible repeat (first | apply Kd.R_alloc | apply Kd.R_drewN | apply Kd.R_drew)); exact HO403.out)) k_ hk, Kd.freshB (g := gb393) (o := .cells #[.int .i64 ((rd_T33 t389 x33_1).f0), .int .i64 ((rd_T33 t389 x33_1).f1)] 33 (0, 0)) (by (with_reducible repeat (first | refine blk_drewN ?_ _ | refine blk_drew ?_ | refine blk_alloc ?_ _)); exact BK393.out) k_ hk⟩))
                              (case aO => exact (by (with_reducible repeat (first | apply Kd.R_alloc | apply Kd.R_drewN | apply Kd.R_drew)); exact Kd.R_mono HO_12.out (fun _ hk => ⟨hk.1.1.1, ⟨hk.1.2, ⟨hk.2, hk.1.1.2⟩⟩⟩)))
                              (case aS => exact (below_size (by repeat (first | (with_reducible first | exact HB.out | apply below_alloc | apply pw_below_drewN | apply below_drew1 | refine below_set ?_ GE393.out) | exact HB.out))))
                              (case aL => have := LMc21.out; omega)
                              intro v399 w33 ho hb hg hat
                              rw [← Ny398.out] at ho
                              have n0_ := Aside0.mk (Kd.R_after (ok := (fun k_ => some k_ ≠ (.slice Ao34 y395.length co34 : Value).ownBlock ∧ some k_ ≠ (v402 : Value).ownBlock ∧ k_ ≠ gb393)) (by (with_reducible repeat (first | apply Kd.R_alloc | apply Kd.R_drewN | apply Kd.R_drew)); exact Kd.R_mono HO_13.out (fun _ hk => ⟨⟨hk.1.2, ⟨hk.2, hk.1.1.2⟩⟩, hk.1.1.1⟩)) hg hat)
                              have n1_ := Aside0.mk (Kd.V_afterv (ok := (fun k_ => some k_ ≠ (.slice Ao26 x13_1.length co26 : Value).ownBlock ∧ some k_ ≠ (.slice Ao34 y395.length co34 : Value).ownBlock ∧ some k_ ≠ (v402 : Value).ownBlock ∧ k_ ≠ gb393)) (by (with_reducible repeat (first | apply Kd.V_alloc | apply Kd.V_drewN | apply Kd.V_drew)); exact Kd.V_mono HO_31.out (fun _ hk => ⟨⟨hk.1.1.2.1, ⟨hk.1.2, ⟨hk.2, hk.1.1.2.2⟩⟩⟩, hk.1.1.1⟩)) hg hat)
                              have n2_ := Aside0.mk (blk_grown (g := gb393) (o := .cells #[.int .i64 ((rd_T33 t389 x33_1).f0), .int .i64 ((rd_T33 t389 x33_1).f1)] 33 (0, 0)) (by (with_reducible repeat (first | refine blk_drewN ?_ _ | refine blk_drew ?_ | refine blk_alloc ?_ _)); exact BK393.out) hg (Kd.R_away HO_12.out (fun _ hk => hk.1.1.2)))
                              have n3_ := Aside0.mk (Kd.R_after (ok := (fun k_ => some k_ ≠ (.slice Ao26 x13_1.length co26 : Value).ownBlock ∧ some k_ ≠ (v402 : Value).ownBlock ∧ k_ ≠ gb393)) (by (with_reducible repeat (first | apply Kd.R_alloc | apply Kd.R_drewN | apply Kd.R_drew)); exact Kd.R_mono HO397.out (fun _ hk => ⟨⟨hk.1.1.2, ⟨hk.2, hk.1.2⟩⟩, hk.1.1.1.2⟩)) hg hat)
                              have n4_ := Aside0.mk (Kd.R_after (ok := (fun k_ => some k_ ≠ (.slice Ao26 x13_1.length co26 : Value).ownBlock ∧ some k_ ≠ (.slice Ao34 y395.length co34 : Value).ownBlock ∧ k_ ≠ gb393)) (by (with_reducible repeat (first | apply Kd.R_alloc | apply Kd.R_drewN | apply Kd.R_drew)); exact Kd.R_mono HO403.out (fun _ hk => ⟨⟨hk.1.1.2, ⟨hk.1.2, hk.2⟩⟩, hk.1.1.1.2⟩)) hg hat)
                              have n5_ := Aside0.mk (hb)
                              have n6_ := Aside0.mk (ho)
                              clear HO_13
                              clear HO_31
                              clear BK393
                              clear HO397
                              clear HO403
                              clear HB
                              clear HO_12
                              have HO_13 := n0_
                              have HO_31 := n1_
                              have BK393 := n2_
                              have HO397 := n3_
                              have HO403 := n4_
                              have HB := n5_
                              have HO400 := n6_
                              clear n0_ n1_ n2_ n3_ n4_ n5_ n6_
                              clear ho hb hg hat
                              refine hK.out _ _ ⟨(blk_cell BK393.out 0).trans rfl, (blk_cell BK393.out 1).trans rfl⟩ (fun hHeld => ?_)
                              clear hK K
                              refine norm_ (a' := ?_) ?_ ?_
                              rotate_left
                              · show Act.put _ (some 60) _ = _
                                simp only [Act.put, List.setIfInBounds_toArray, List.set_cons_zero, List.set_cons_succ, i64_w, i32_w]
                                rfl
                              exact norm_ (by simp only [putAll, Act.put, List.setIfInBounds_toArray, List.set_cons_zero, List.set_cons_succ]) (hCont (.slice Ao34 y395.length co34, v399, v402) _ ⟨hHeld, (by (with_reducible repeat (first | apply Kd.R_alloc | apply Kd.R_drewN | apply Kd.R_drew)); exact Kd.R_mono HO397.out (fun _ hk => ⟨hk.2, ⟨hk.1.2.1, ⟨hk.1.1, hk.1.2.2⟩⟩⟩)), (by (with_reducible repeat (first | apply Kd.R_alloc | apply Kd.R_drewN | apply Kd.R_drew)); exact Kd.R_mono HO400.out (fun _ hk => ⟨hk.2.1, ⟨hk.2.2.1, ⟨hk.1, hk.2.2.2⟩⟩⟩)), (by (with_reducible repeat (first | apply Kd.R_alloc | apply Kd.R_drewN | apply Kd.R_drew)); exact Kd.R_mono HO403.out (fun _ hk => ⟨hk.1.2.1, ⟨hk.2, ⟨hk.1.1, hk.1.2.2⟩⟩⟩)), (by (with_reducible repeat (first | apply Kd.R_alloc | apply Kd.R_drewN | apply Kd.R_drew)); exact Kd.R_mono HO_13.out (fun _ hk => ⟨hk.1.1, ⟨hk.2, ⟨hk.1.2.1, hk.1.2.2⟩⟩⟩)), (by (with_reducible repeat (first | apply Kd.V_alloc | apply Kd.V_drewN | apply Kd.V_drew)); exact Kd.V_mono HO_31.out (fun _ hk => ⟨hk.1.2.1, ⟨hk.2, ⟨hk.1.2.2.1, ⟨hk.1.1, hk.1.2.2.2⟩⟩⟩⟩)), (by (with_reducible repeat (first | refine blk_drewN ?_ _ | refine blk_drew ?_ | refine blk_alloc ?_ _)); exact BK393.out), (by repeat (first | (with_reducible first | exact HB.out | apply below_alloc | apply pw_below_drewN | apply below_drew1 | refine below_set ?_ GE393.out) | exact HB.out))⟩)
                          · skip
                            refine Kd.R_lit_step k33 _ 33 ?hg (N := 70) ?hd (xs := ([(⟨wrap64 ((Int.tmod ((rd_T33 t389 x33_1).f0) 1099511627776) + (wrap64 ((wrap64 ((wrap64 (Int.tmod a1 1000)) + 1)) * (wrap64 (Int.tmod a2 1000))))), (rd_T33 t389 x33_1).f1⟩ : S33)] : List (S33))) (inner := [.int .i64 (wrap64 ((Int.tmod ((rd_T33 t389 x33_1).f0) 1099511627776) + (wrap64 ((wrap64 ((wrap64 (Int.tmod a1 1000)) + 1)) * (wrap64 (Int.tmod a2 1000)))))), .int .i64 ((rd_T33 t389 x33_1).f1)]) (ok := fun _ => True) (okp := fun _ => True) ?hr ?hp (fun _ hk => hk) trivial (Below.refl _ _) (Nat.le_refl _) (by simp) ?_; (case hd => rfl); (case hg => rfl); (case hr => first | (go_simp; done) | (go_simp; rfl)); (case hp => exact (Reps.c2 (show Kd.M k33 _ _ _ (⟨wrap64 ((Int.tmod ((rd_T33 t389 x33_1).f0) 1099511627776) + (wrap64 ((wrap64 ((wrap64 (Int.tmod a1 1000)) + 1)) * (wrap64 (Int.tmod a2 1000))))), (rd_T33 t389 x33_1).f1⟩ : S33) [.int .i64 (wrap64 ((Int.tmod ((rd_T33 t389 x33_1).f0) 1099511627776) + (wrap64 ((wrap64 ((wrap64 (Int.tmod a1 1000)) + 1)) * (wrap64 (Int.tmod a2 1000)))))), .int .i64 ((rd_T33 t389 x33_1).f1)] from (k33_mkM _ _ _ (⟨wrap64 ((Int.tmod ((rd_T33 t389 x33_1).f0) 1099511627776) + (wrap64 ((wrap64 ((wrap64 (Int.tmod a1 1000)) + 1)) * (wrap64 (Int.tmod a2 1000))))), (rd_T33 t389 x33_1).f1⟩ : S33) )) (Reps.none _ _)))
                            intro v402 w29 ho30 hb hg_ hnew_
                            clear hg_ hnew_
                            (first | rw [← Ny401.out] at ho30 | (simp only [Int.reduceToNat] at ho30; rw [← Ny401.out] at ho30))
                            have n0_ := Aside0.mk (Kd.R_elder' (by (with_reducible repeat (first | apply Kd.R_alloc | apply Kd.R_drewN | apply Kd.R_drew)); exact HO_12.out) (Kd.R_base ho30) hb)
                            have n1_ := Aside0.mk (Kd.R_elder' (by (with_reducible repeat (first | apply Kd.R_alloc | apply Kd.R_drewN | apply Kd.R_drew)); exact HO_13.out) (Kd.R_base ho30) hb)
                            have n2_ := Aside0.mk (Kd.V_elder' (by (with_reducible repeat (first | apply Kd.V_alloc | apply Kd.V_drewN | apply Kd.V_drew)); exact HO_31.out) (Kd.R_base ho30) hb)
                            have n3_ := Aside0.mk (Kd.R_lower (Kd.R_newB (Kd.R_new' (Kd.R_new' ho30 (Kd.R_lt (by (with_reducible repeat (first | apply Kd.R_alloc | apply Kd.R_drewN | apply Kd.R_drew)); exact HO_12.out))) (Kd.R_lt (by (with_reducible repeat (first | apply Kd.R_alloc | apply Kd.R_drewN | apply Kd.R_drew)); exact HO_13.out))) (g := gb393) (o := .cells #[.int .i64 ((rd_T33 t389 x33_1).f0), .int .i64 ((rd_T33 t389 x33_1).f1)] 33 (0, 0)) (by (with_reducible repeat (first | refine blk_drewN ?_ _ | refine blk_drew ?_ | refine blk_alloc ?_ _)); exact BK393.out)) (below_size (by repeat (first | (with_reducible first | exact HB.out | apply below_alloc | apply pw_below_drewN | apply below_drew1 | refine below_set ?_ GE393.out) | exact HB.out))))
                            have n4_ := Aside0.mk (blk_below (g := gb393) (o := .cells #[.int .i64 ((rd_T33 t389 x33_1).f0), .int .i64 ((rd_T33 t389 x33_1).f1)] 33 (0, 0)) (by (with_reducible repeat (first | refine blk_drewN ?_ _ | refine blk_drew ?_ | refine blk_alloc ?_ _)); exact BK393.out) hb)
                            have n5_ := Aside0.mk (below_step (by repeat (first | (with_reducible first | exact HB.out | apply below_alloc | apply pw_below_drewN | apply below_drew1 | refine below_set ?_ GE393.out) | exact HB.out)) hb)
                            clear HO_12
                            clear HO_13
                            clear HO_31
                            clear BK393
                            clear HB
                            have HO_12 := n0_
                            have HO_13 := n1_
                            have HO_31 := n2_
                            have HO403 := n3_
                            have BK393 := n4_
                            have HB := n5_
                            clear n0_ n1_ n2_ n3_ n4_ n5_
                            clear hb ho30
                            refine hK.out _ _ ⟨(blk_cell BK393.out 0).trans rfl, (blk_cell BK393.out 1).trans rfl⟩ (fun hHeld => ?_)
                            clear hK K
                            refine norm_ (a' := ?_) ?_ ?_
                            rotate_left
                            · show Act.put _ (some 70) _ = _
                              simp only [Act.put, List.setIfInBounds_toArray, List.set_cons_zero, List.set_cons_succ, i64_w, i32_w]
                              rfl
                            refine one_ (i := 5) (N := some 59) #[true, true, true, true, true, true, false, true, true, true, true, true, true, true, true, true, true, false, false, false] rfl rfl (one_of HT_.out (by kernel_rfl)) (by decide) (fun K hK => ?_)
                            refine Kd.R_lit_step k33 _ 33 ?hg (N := 59) ?hd (xs := ([(⟨Int.tmod ((rd_T33 t389 x33_1).f0) 1099511627776, (rd_T33 t389 x33_1).f1⟩ : S33)] : List (S33))) (inner := [.int .i64 (Int.tmod ((rd_T33 t389 x33_1).f0) 1099511627776), .int .i64 ((rd_T33 t389 x33_1).f1)]) (ok := fun _ => True) (okp := fun _ => True) ?hr ?hp (fun _ hk => hk) trivial (Below.refl _ _) (Nat.le_refl _) (by simp) ?_; (case hd => rfl); (case hg => rfl); (case hr => first | (go_simp; done) | (go_simp; rfl)); (case hp => exact (Reps.c2 (show Kd.M k33 _ _ _ (⟨Int.tmod ((rd_T33 t389 x33_1).f0) 1099511627776, (rd_T33 t389 x33_1).f1⟩ : S33) [.int .i64 (Int.tmod ((rd_T33 t389 x33_1).f0) 1099511627776), .int .i64 ((rd_T33 t389 x33_1).f1)] from (k33_mkM _ _ _ (⟨Int.tmod ((rd_T33 t389 x33_1).f0) 1099511627776, (rd_T33 t389 x33_1).f1⟩ : S33) )) (Reps.none _ _)))
                            intro v396 w31 ho32 hb hg_ hnew_
                            clear hg_ hnew_
                            (first | rw [← Ny395.out] at ho32 | (simp only [Int.reduceToNat] at ho32; rw [← Ny395.out] at ho32))
                            have n0_ := Aside0.mk (Kd.R_elder' (by (with_reducible repeat (first | apply Kd.R_alloc | apply Kd.R_drewN | apply Kd.R_drew)); exact HO_12.out) (Kd.R_base ho32) hb)
                            have n1_ := Aside0.mk (Kd.R_elder' (by (with_reducible repeat (first | apply Kd.R_alloc | apply Kd.R_drewN | apply Kd.R_drew)); exact HO_13.out) (Kd.R_base ho32) hb)
                            have n2_ := Aside0.mk (Kd.V_elder' (by (with_reducible repeat (first | apply Kd.V_alloc | apply Kd.V_drewN | apply Kd.V_drew)); exact HO_31.out) (Kd.R_base ho32) hb)
                            have n3_ := Aside0.mk (Kd.R_elder' (by (with_reducible repeat (first | apply Kd.R_alloc | apply Kd.R_drewN | apply Kd.R_drew)); exact HO403.out) (Kd.R_base ho32) hb)
                            have n4_ := Aside0.mk (Kd.R_lower (Kd.R_newB (Kd.R_new' (Kd.R_new' (Kd.R_new' ho32 (Kd.R_lt (by (with_reducible repeat (first | apply Kd.R_alloc | apply Kd.R_drewN | apply Kd.R_drew)); exact HO_12.out))) (Kd.R_lt (by (with_reducible repeat (first | apply Kd.R_alloc | apply Kd.R_drewN | apply Kd.R_drew)); exact HO_13.out))) (Kd.R_lt (by (with_reducible repeat (first | apply Kd.R_alloc | apply Kd.R_drewN | apply Kd.R_drew)); exact HO403.out))) (g := gb393) (o := .cells #[.int .i64 ((rd_T33 t389 x33_1).f0), .int .i64 ((rd_T33 t389 x33_1).f1)] 33 (0, 0)) (by (with_reducible repeat (first | refine blk_drewN ?_ _ | refine blk_drew ?_ | refine blk_alloc ?_ _)); exact BK393.out)) (below_size (by repeat (first | (with_reducible first | exact HB.out | apply below_alloc | apply pw_below_drewN | apply below_drew1 | refine below_set ?_ GE393.out) | exact HB.out))))
                            have n5_ := Aside0.mk (blk_below (g := gb393) (o := .cells #[.int .i64 ((rd_T33 t389 x33_1).f0), .int .i64 ((rd_T33 t389 x33_1).f1)] 33 (0, 0)) (by (with_reducible repeat (first | refine blk_drewN ?_ _ | refine blk_drew ?_ | refine blk_alloc ?_ _)); exact BK393.out) hb)
                            have n6_ := Aside0.mk (below_step (by repeat (first | (with_reducible first | exact HB.out | apply below_alloc | apply pw_below_drewN | apply below_drew1 | refine below_set ?_ GE393.out) | exact HB.out)) hb)
                            clear HO_12
                            clear HO_13
                            clear HO_31
                            clear HO403
                            clear BK393
                            clear HB
                            have HO_12 := n0_
                            have HO_13 := n1_
                            have HO_31 := n2_
                            have HO403 := n3_
                            have HO397 := n4_
                            have BK393 := n5_
                            have HB := n6_
                            clear n0_ n1_ n2_ n3_ n4_ n5_ n6_
                            clear hb ho32
                            obtain ⟨Ao34, co34, eo34⟩ := Kd.R_slice HO397.out
                            (first | subst eo34 | (injection eo34 with f1_ f2_ f3_; have f4_ := f1_.symm; have f5_ := f3_.symm; clear f1_ f2_ f3_; subst f4_; subst f5_))
                            refine hK.out _ _ ⟨(blk_cell BK393.out 0).trans rfl, (blk_cell BK393.out 1).trans rfl⟩ (fun hHeld => ?_)
                            clear hK K
                            refine norm_ (a' := ?_) ?_ ?_
                            rotate_left
                            · show Act.put _ (some 59) _ = _
                              simp only [Act.put, List.setIfInBounds_toArray, List.set_cons_zero, List.set_cons_succ, i64_w, i32_w]
                              rfl
                            refine one_ (i := 6) (N := some 60) #[true, true, true, true, true, true, true, true, true, true, true, true, true, true, true, true, true, false, false, false] rfl rfl (one_of HT_.out (by kernel_rfl)) (by decide) (fun K hK => ?_)
                            refine Kd.R_append_rows_step k33 (w0 := w) w.heap.size (by rfl) (.tmp 54) (.tmp 59) 30 33 (.agg #[(.int .i64 0), (.int .i64 0)]) 16 rfl Try.underlying30 info33 rfl (by decide) (by omega) (.slice (some ad394) x12_1.length co25) x12_1 y395 _ _ _ (fun k_ => some k_ ≠ (.slice Ao26 x13_1.length co26 : Value).ownBlock ∧ some k_ ≠ (v402 : Value).ownBlock ∧ some k_ ≠ (.slice Ao34 y395.length co34 : Value).ownBlock ∧ k_ ≠ gb393) (fun _ => False) rfl rfl ?aO ?aR (fun _ _ h => h) (fun _ h => h.elim) ?aF ?aB ?aS ?aL ?_
                            (case aR => repeat (first | exact (Kd.R_reads' HO397.out).2.2 | (with_reducible refine Kd.C_alloc ?_ _) | (with_reducible refine Kd.C_drewN ?_ _) | (with_reducible refine Kd.C_drew ?_)))
                            (case aB => exact (by repeat (first | (with_reducible first | exact HB.out | apply below_alloc | apply pw_below_drewN | apply below_drew1 | refine below_set ?_ GE393.out) | exact HB.out)))
                            (case aF => exact (fun k_ hk => ⟨Kd.fresh' (Kd.R_lt (by (with_reducible repeat (first | apply Kd.R_alloc | apply Kd.R_drewN | apply Kd.R_drew)); exact HO_13.out)) k_ hk, Kd.fresh' (Kd.R_lt (by (with_reducible repeat (first | apply Kd.R_alloc | apply Kd.R_drewN | apply Kd.R_drew)); exact HO403.out)) k_ hk, Kd.fresh' (Kd.R_lt (by (with_reducible repeat (first | apply Kd.R_alloc | apply Kd.R_drewN | apply Kd.R_drew)); exact HO397.out)) k_ hk, Kd.freshB (g := gb393) (o := .cells #[.int .i64 ((rd_T33 t389 x33_1).f0), .int .i64 ((rd_T33 t389 x33_1).f1)] 33 (0, 0)) (by (with_reducible repeat (first | refine blk_drewN ?_ _ | refine blk_drew ?_ | refine blk_alloc ?_ _)); exact BK393.out) k_ hk⟩))
                            (case aO => exact (by (with_reducible repeat (first | apply Kd.R_alloc | apply Kd.R_drewN | apply Kd.R_drew)); exact Kd.R_mono HO_12.out (fun _ hk => ⟨hk.1.1.1, ⟨hk.1.2, ⟨hk.2, hk.1.1.2⟩⟩⟩)))
                            (case aS => exact (below_size (by repeat (first | (with_reducible first | exact HB.out | apply below_alloc | apply pw_below_drewN | apply below_drew1 | refine below_set ?_ GE393.out) | exact HB.out))))
                            (case aL => have := LMc21.out; omega)
                            intro v399 w33 ho hb hg hat
                            rw [← Ny398.out] at ho
                            have n0_ := Aside0.mk (Kd.R_after (ok := (fun k_ => some k_ ≠ (v402 : Value).ownBlock ∧ some k_ ≠ (.slice Ao34 y395.length co34 : Value).ownBlock ∧ k_ ≠ gb393)) (by (with_reducible repeat (first | apply Kd.R_alloc | apply Kd.R_drewN | apply Kd.R_drew)); exact Kd.R_mono HO_13.out (fun _ hk => ⟨⟨hk.1.2, ⟨hk.2, hk.1.1.2⟩⟩, hk.1.1.1⟩)) hg hat)
                            have n1_ := Aside0.mk (Kd.V_afterv (ok := (fun k_ => some k_ ≠ (.slice Ao26 x13_1.length co26 : Value).ownBlock ∧ some k_ ≠ (v402 : Value).ownBlock ∧ some k_ ≠ (.slice Ao34 y395.length co34 : Value).ownBlock ∧ k_ ≠ gb393)) (by (with_reducible repeat (first | apply Kd.V_alloc | apply Kd.V_drewN | apply Kd.V_drew)); exact Kd.V_mono HO_31.out (fun _ hk => ⟨⟨hk.1.1.2.1, ⟨hk.1.2, ⟨hk.2, hk.1.1.2.2⟩⟩⟩, hk.1.1.1⟩)) hg hat)
                            have n2_ := Aside0.mk (blk_grown (g := gb393) (o := .cells #[.int .i64 ((rd_T33 t389 x33_1).f0), .int .i64 ((rd_T33 t389 x33_1).f1)] 33 (0, 0)) (by (with_reducible repeat (first | refine blk_drewN ?_ _ | refine blk_drew ?_ | refine blk_alloc ?_ _)); exact BK393.out) hg (Kd.R_away HO_12.out (fun _ hk => hk.1.1.2)))
                            have n3_ := Aside0.mk (Kd.R_after (ok := (fun k_ => some k_ ≠ (.slice Ao26 x13_1.length co26 : Value).ownBlock ∧ some k_ ≠ (.slice Ao34 y395.length co34 : Value).ownBlock ∧ k_ ≠ gb393)) (by (with_reducible repeat (first | apply Kd.R_alloc | apply Kd.R_drewN | apply Kd.R_drew)); exact Kd.R_mono HO403.out (fun _ hk => ⟨⟨hk.1.1.2, ⟨hk.2, hk.1.2⟩⟩, hk.1.1.1.2⟩)) hg hat)
                            have n4_ := Aside0.mk (Kd.R_after (ok := (fun k_ => some k_ ≠ (.slice Ao26 x13_1.length co26 : Value).ownBlock ∧ some k_ ≠ (v402 : Value).ownBlock ∧ k_ ≠ gb393)) (by (with_reducible repeat (first | apply Kd.R_alloc | apply Kd.R_drewN | apply Kd.R_drew)); exact Kd.R_mono HO397.out (fun _ hk => ⟨⟨hk.1.1.2, ⟨hk.1.2, hk.2⟩⟩, hk.1.1.1.2⟩)) hg hat)
                            have n5_ := Aside0.mk (hb)
                            have n6_ := Aside0.mk (ho)
                            clear HO_13
                            clear HO_31
                            clear BK393
                            clear HO403
                            clear HO397
                            clear HB
                            clear HO_12
                            have HO_13 := n0_
                            have HO_31 := n1_
                            have BK393 := n2_
                            have HO403 := n3_
                            have HO397 := n4_
                            have HB := n5_
                            have HO400 := n6_
                            clear n0_ n1_ n2_ n3_ n4_ n5_ n6_
                            clear ho hb hg hat
                            refine hK.out _ _ ⟨(blk_cell BK393.out 0).trans rfl, (blk_cell BK393.out 1).trans rfl⟩ (fun hHeld => ?_)
                            clear hK K
                            refine norm_ (a' := ?_) ?_ ?_
                            rotate_left
                            · show Act.put _ (some 60) _ = _
                              simp only [Act.put, List.setIfInBounds_toArray, List.set_cons_zero, List.set_cons_succ, i64_w, i32_w]
                              rfl
                            exact norm_ (by simp only [putAll, Act.put, List.setIfInBounds_toArray, List.set_cons_zero, List.set_cons_succ]) (hCont (.slice Ao34 y395.length co34, v399, v402) _ ⟨hHeld, (by (with_reducible repeat (first | apply Kd.R_alloc | apply Kd.R_drewN | apply Kd.R_drew)); exact Kd.R_mono HO397.out (fun _ hk => ⟨hk.2, ⟨hk.1.2.1, ⟨hk.1.1, hk.1.2.2⟩⟩⟩)), (by (with_reducible repeat (first | apply Kd.R_alloc | apply Kd.R_drewN | apply Kd.R_drew)); exact Kd.R_mono HO400.out (fun _ hk => ⟨hk.2.2.1, ⟨hk.2.1, ⟨hk.1, hk.2.2.2⟩⟩⟩)), (by (with_reducible repeat (first | apply Kd.R_alloc | apply Kd.R_drewN | apply Kd.R_drew)); exact Kd.R_mono HO403.out (fun _ hk => ⟨hk.1.2.1, ⟨hk.2, ⟨hk.1.1, hk.1.2.2⟩⟩⟩)), (by (with_reducible repeat (first | apply Kd.R_alloc | apply Kd.R_drewN | apply Kd.R_drew)); exact Kd.R_mono HO_13.out (fun _ hk => ⟨hk.1.2.1, ⟨hk.2, ⟨hk.1.1, hk.1.2.2⟩⟩⟩)), (by (with_reducible repeat (first | apply Kd.V_alloc | apply Kd.V_drewN | apply Kd.V_drew)); exact Kd.V_mono HO_31.out (fun _ hk => ⟨hk.1.2.2.1, ⟨hk.2, ⟨hk.1.2.1, ⟨hk.1.1, hk.1.2.2.2⟩⟩⟩⟩)), (by (with_reducible repeat (first | refine blk_drewN ?_ _ | refine blk_drew ?_ | refine blk_alloc ?_ _)); exact BK393.out), (by repeat (first | (with_reducible first | exact HB.out | apply below_alloc | apply pw_below_drewN | apply below_drew1 | refine below_set ?_ GE393.out) | exact HB.out))⟩)
                        rintro ⟨v396, v399, v402⟩ w35 ⟨hS_, h0_, h1_, h2_, h3_, h4_, h5_, h6_⟩
                        have n0_ : Aside0 (Kd.R k33 33 w35 w.heap.size (fun k_ => some k_ ≠ (v399 : Value).ownBlock ∧ some k_ ≠ (v402 : Value).ownBlock ∧ some k_ ≠ (.slice Ao26 x13_1.length co26 : Value).ownBlock ∧ k_ ≠ gb393) v396 y395) := ⟨h0_⟩
                        have n1_ : Aside0 (Kd.R k33 33 w35 w.heap.size (fun k_ => some k_ ≠ (v396 : Value).ownBlock ∧ some k_ ≠ (v402 : Value).ownBlock ∧ some k_ ≠ (.slice Ao26 x13_1.length co26 : Value).ownBlock ∧ k_ ≠ gb393) v399 y398) := ⟨h1_⟩
                        have n2_ : Aside0 (Kd.R k33 33 w35 w.heap.size (fun k_ => some k_ ≠ (v396 : Value).ownBlock ∧ some k_ ≠ (v399 : Value).ownBlock ∧ some k_ ≠ (.slice Ao26 x13_1.length co26 : Value).ownBlock ∧ k_ ≠ gb393) v402 y401) := ⟨h2_⟩
                        have n3_ : Aside0 (Kd.R k33 33 w35 w.heap.size (fun k_ => some k_ ≠ (v396 : Value).ownBlock ∧ some k_ ≠ (v399 : Value).ownBlock ∧ some k_ ≠ (v402 : Value).ownBlock ∧ k_ ≠ gb393) (.slice Ao26 x13_1.length co26) x13_1) := ⟨h3_⟩
                        have n4_ : Aside0 (Kd.V k33 33 w35 w.heap.size (fun k_ => some k_ ≠ (v396 : Value).ownBlock ∧ some k_ ≠ (v399 : Value).ownBlock ∧ some k_ ≠ (v402 : Value).ownBlock ∧ some k_ ≠ (.slice Ao26 x13_1.length co26 : Value).ownBlock ∧ k_ ≠ gb393) (.slice (some ad392) t389.length co9) t389) := ⟨h4_⟩
                        have n5_ : Aside0 (w35.heap[gb393]? = some (.cells #[.int .i64 ((rd_T33 t389 x33_1).f0), .int .i64 ((rd_T33 t389 x33_1).f1)] 33 (0, 0))) := ⟨h5_⟩
                        have n6_ : Aside0 (Below w.heap.size w w35) := ⟨h6_⟩
                        clear HO_12
                        clear HO_13
                        clear HO_31
                        clear BK393
                        clear HB
                        clear h0_ h1_ h2_ h3_ h4_ h5_ h6_
                        have HO397 := n0_
                        have HO400 := n1_
                        have HO403 := n2_
                        have HO_13 := n3_
                        have HO_31 := n4_
                        have BK393 := n5_
                        have HB := n6_
                        clear n0_ n1_ n2_ n3_ n4_ n5_ n6_
                        have hHeld : w35.cell? ⟨gb393, 0, none⟩ = some (.int .i64 ((rd_T33 t389 x33_1).f0)) ∧ w35.cell? ⟨gb393, 1, none⟩ = some (.int .i64 ((rd_T33 t389 x33_1).f1)) := hS_
                        obtain ⟨Ao37, co37, eo37⟩ := Kd.R_slice HO403.out
                        (first | subst eo37 | (injection eo37 with f1_ f2_ f3_; have f4_ := f1_.symm; have f5_ := f3_.symm; clear f1_ f2_ f3_; subst f4_; subst f5_))
                        refine norm_ (a' := ?_) ?_ ?_
                        rotate_left
                        · simp only [putAll, Act.put, List.setIfInBounds_toArray, List.set_cons_zero, List.set_cons_succ]
                          rfl
                        refine one_ (i := 17) (N := some 71) #[true, true, true, true, true, true, true, true, true, true, true, true, true, true, true, true, true, true, false, false] rfl rfl (one_of HT_.out (by kernel_rfl)) (by decide) (fun K hK => ?_)
                        refine Kd.R_append_rows_step k33 (w0 := w) w.heap.size (by rfl) (.tmp 61) (.tmp 70) 30 33 (.agg #[(.int .i64 0), (.int .i64 0)]) 16 rfl Try.underlying30 info33 rfl (by decide) (by omega) (.slice Ao26 x13_1.length co26) x13_1 y401 _ _ _ (fun k_ => some k_ ≠ (v396 : Value).ownBlock ∧ some k_ ≠ (v399 : Value).ownBlock ∧ some k_ ≠ (.slice Ao37 y401.length co37 : Value).ownBlock ∧ k_ ≠ gb393) (fun _ => False) rfl rfl ?aO ?aR (fun _ _ h => h) (fun _ h => h.elim) ?aF ?aB ?aS ?aL ?_
                        (case aR => repeat (first | exact (Kd.R_reads' HO403.out).2.2 | (with_reducible refine Kd.C_alloc ?_ _) | (with_reducible refine Kd.C_drewN ?_ _) | (with_reducible refine Kd.C_drew ?_)))
                        (case aB => exact (by repeat (first | (with_reducible first | exact HB.out | apply below_alloc | apply pw_below_drewN | apply below_drew1 | refine below_set ?_ GE393.out) | exact HB.out)))
                        (case aF => exact (fun k_ hk => ⟨Kd.fresh' (Kd.R_lt (by (with_reducible repeat (first | apply Kd.R_alloc | apply Kd.R_drewN | apply Kd.R_drew)); exact HO397.out)) k_ hk, Kd.fresh' (Kd.R_lt (by (with_reducible repeat (first | apply Kd.R_alloc | apply Kd.R_drewN | apply Kd.R_drew)); exact HO400.out)) k_ hk, Kd.fresh' (Kd.R_lt (by (with_reducible repeat (first | apply Kd.R_alloc | apply Kd.R_drewN | apply Kd.R_drew)); exact HO403.out)) k_ hk, Kd.freshB (g := gb393) (o := .cells #[.int .i64 ((rd_T33 t389 x33_1).f0), .int .i64 ((rd_T33 t389 x33_1).f1)] 33 (0, 0)) (by (with_reducible repeat (first | refine blk_drewN ?_ _ | refine blk_drew ?_ | refine blk_alloc ?_ _)); exact BK393.out) k_ hk⟩))
                        (case aO => exact (by (with_reducible repeat (first | apply Kd.R_alloc | apply Kd.R_drewN | apply Kd.R_drew)); exact HO_13.out))
                        (case aS => exact (below_size (by repeat (first | (with_reducible first | exact HB.out | apply below_alloc | apply pw_below_drewN | apply below_drew1 | refine below_set ?_ GE393.out) | exact HB.out))))
                        (case aL => have := LMc22.out; omega)
                        intro v405 w36 ho hb hg hat
                        rw [← Ny404.out] at ho
                        have n0_ := Aside0.mk (Kd.V_afterv (ok := (fun k_ => some k_ ≠ (v396 : Value).ownBlock ∧ some k_ ≠ (v399 : Value).ownBlock ∧ some k_ ≠ (.slice Ao37 y401.length co37 : Value).ownBlock ∧ k_ ≠ gb393)) (by (with_reducible repeat (first | apply Kd.V_alloc | apply Kd.V_drewN | apply Kd.V_drew)); exact Kd.V_mono HO_31.out (fun _ hk => ⟨⟨hk.1, ⟨hk.2.1, ⟨hk.2.2.1, hk.2.2.2.2⟩⟩⟩, hk.2.2.2.1⟩)) hg hat)
                        have n1_ := Aside0.mk (blk_grown (g := gb393) (o := .cells #[.int .i64 ((rd_T33 t389 x33_1).f0), .int .i64 ((rd_T33 t389 x33_1).f1)] 33 (0, 0)) (by (with_reducible repeat (first | refine blk_drewN ?_ _ | refine blk_drew ?_ | refine blk_alloc ?_ _)); exact BK393.out) hg (Kd.R_away HO_13.out (fun _ hk => hk.2.2.2)))
                        have n2_ := Aside0.mk (Kd.R_after (ok := (fun k_ => some k_ ≠ (v399 : Value).ownBlock ∧ some k_ ≠ (.slice Ao37 y401.length co37 : Value).ownBlock ∧ k_ ≠ gb393)) (by (with_reducible repeat (first | apply Kd.R_alloc | apply Kd.R_drewN | apply Kd.R_drew)); exact Kd.R_mono HO397.out (fun _ hk => ⟨⟨hk.1, ⟨hk.2.1, hk.2.2.2⟩⟩, hk.2.2.1⟩)) hg hat)
                        have n3_ := Aside0.mk (Kd.R_after (ok := (fun k_ => some k_ ≠ (v396 : Value).ownBlock ∧ some k_ ≠ (.slice Ao37 y401.length co37 : Value).ownBlock ∧ k_ ≠ gb393)) (by (with_reducible repeat (first | apply Kd.R_alloc | apply Kd.R_drewN | apply Kd.R_drew)); exact Kd.R_mono HO400.out (fun _ hk => ⟨⟨hk.1, ⟨hk.2.1, hk.2.2.2⟩⟩, hk.2.2.1⟩)) hg hat)
                        have n4_ := Aside0.mk (Kd.R_after (ok := (fun k_ => some k_ ≠ (v396 : Value).ownBlock ∧ some k_ ≠ (v399 : Value).ownBlock ∧ k_ ≠ gb393)) (by (with_reducible repeat (first | apply Kd.R_alloc | apply Kd.R_drewN | apply Kd.R_drew)); exact Kd.R_mono HO403.out (fun _ hk => ⟨⟨hk.1, ⟨hk.2.1, hk.2.2.2⟩⟩, hk.2.2.1⟩)) hg hat)
                        have n5_ := Aside0.mk (hb)
                        have n6_ := Aside0.mk (ho)
                        clear HO_31
                        clear BK393
                        clear HO397
                        clear HO400
                        clear HO403
                        clear HB
                        clear HO_13
                        have HO_31 := n0_
                        have BK393 := n1_
                        have HO397 := n2_
                        have HO400 := n3_
                        have HO403 := n4_
                        have HB := n5_
                        have HO406 := n6_
                        clear n0_ n1_ n2_ n3_ n4_ n5_ n6_
                        clear ho hb hg hat
                        refine hK.out _ _ ⟨(blk_cell BK393.out 0).trans rfl, (blk_cell BK393.out 1).trans rfl⟩ (fun hHeld => ?_)
                        clear hK K
                        refine norm_ (a' := ?_) ?_ ?_
                        rotate_left
                        · show Act.put _ (some 71) _ = _
                          simp only [Act.put, List.setIfInBounds_toArray, List.set_cons_zero, List.set_cons_succ, i64_w, i32_w]
                          rfl
                        refine pure_ (i := 18) (N := some 12) (v := ?_) (a' := ?_) #[true, true, true, true, true, true, true, true, true, true, true, true, true, true, true, true, true, true, true, false] rfl rfl (any_of HT_.out (by kernel_rfl)) (fun _ _ _ h => h) (Or.inl ⟨by rfl, ?_⟩) ?_ ?_
                        rotate_left
                        · intro w'
                          go_simp
                          with_reducible rfl
                        rotate_left
                        · simp only [Act.put, List.setIfInBounds_toArray, List.set_cons_zero, List.set_cons_succ, i64_w, i32_w]
                          rfl
                        refine pure_ (i := 19) (N := some 13) (v := ?_) (a' := ?_) #[true, true, true, true, true, true, true, true, true, true, true, true, true, true, true, true, true, true, true, true] rfl rfl (any_of HT_.out (by kernel_rfl)) (fun _ _ _ h => h) (Or.inl ⟨by rfl, ?_⟩) ?_ ?_
                        rotate_left
                        · intro w'
                          go_simp
                          with_reducible rfl
                        rotate_left
                        · simp only [Act.put, List.setIfInBounds_toArray, List.set_cons_zero, List.set_cons_succ, i64_w, i32_w]
                          rfl
                        refine done_ (done_of HT_.out (by kernel_rfl)) ?_
                        try go_wp2
                        go_roundg k1
                        case measure => have := HK1.out; omega
                        case rel => exact ⟨(y398), (y404), (wrap64 (x33_1 + 1)), (by first | rfl | (simp; done) | (simp [*]; done) | (simp <;> grind)), (by first | exact H' | (simp only [hji14]; exact H')), ⟨by have := HK1.out; omega⟩, ⟨by (with_reducible repeat (first | apply Kd.R_alloc | apply Kd.R_drewN | apply Kd.R_drew)); exact Kd.R_mono HO400.out (fun _ hk => hk.2)⟩, ⟨by (with_reducible repeat (first | apply Kd.R_alloc | apply Kd.R_drewN | apply Kd.R_drew)); exact Kd.R_mono HO406.out (fun _ hk => hk.2.1)⟩, ⟨by (with_reducible repeat (first | apply Kd.V_alloc | apply Kd.V_drewN | apply Kd.V_drew)); exact Kd.V_mono HO_31.out (fun _ hk => ⟨hk.1.2.1, hk.2⟩)⟩, ⟨by repeat (first | (with_reducible first | exact HB.out | apply below_alloc | apply pw_below_drewN | apply below_drew1 | refine below_set ?_ GE393.out) | exact HB.out)⟩⟩
                      · rw [if_neg c22] at H
                        exact absurd H (by simp)
                    · rw [if_neg c21] at H
                      exact absurd H (by simp)
                · rw [if_neg c16] at H
                  exact absurd H (by simp)
              · rw [if_neg c15] at H
                exact absurd H (by simp)
            · rw [if_neg c13] at H
              have c13b0 : decide (0 < (x12_1.length : Int)) = false := decide_eq_false c13
              have c13b1 : decide (0 < x12_1.length) = false := decide_eq_false (by omega)
              clear c13
              obtain ⟨y407, hy407⟩ : ∃ y_ : List (S33), y_ = (([(⟨Int.tmod ((rd_T33 t389 x33_1).f0) 1099511627776, (rd_T33 t389 x33_1).f1⟩ : S33)] : List (S33))) := ⟨_, rfl⟩
              replace H : (if x12_1.length + y407.length < 8796093022208 then ((some (([(⟨wrap64 ((Int.tmod ((rd_T33 t389 x33_1).f0) 1099511627776) + (wrap64 ((wrap64 ((wrap64 (Int.tmod a1 1000)) + 1)) * (wrap64 (Int.tmod a2 1000))))), (rd_T33 t389 x33_1).f1⟩ : S33)] : List (S33)) : List (S33))).bind fun y413 => (if x13_1.length + y413.length < 8796093022208 then (marigraphlaw12_AggShift.l0 k1 a3 t388 (wrap64 ((wrap64 (Int.tmod a1 1000)) + 1)) (wrap64 (Int.tmod a2 1000)) (x12_1 ++ y407) (x13_1 ++ y413) t389 (t389.length : Int) (wrap64 (x33_1 + 1))) else (none))) else (none)) = some r := by first | (rw [hy407]; with_reducible exact H) | (have H2_ := (Option.bind_some _ _).symm.trans H; rw [hy407]; with_reducible exact H2_) | (have H2_ := (Option.bind_some _ _).symm.trans H; with_reducible exact H2_) | with_reducible exact H | (rw [hy407]; exact H) | exact H
              have Ny407 := Aside0.mk hy407
              clear hy407
              by_cases c38 : x12_1.length + y407.length < 8796093022208
              · rw [if_pos c38] at H
                have LMc38 := Aside0.mk c38
                clear c38
                obtain ⟨y410, hy410⟩ : ∃ y_ : List (S33), y_ = (x12_1 ++ y407) := ⟨_, rfl⟩
                replace H : ((some (([(⟨wrap64 ((Int.tmod ((rd_T33 t389 x33_1).f0) 1099511627776) + (wrap64 ((wrap64 ((wrap64 (Int.tmod a1 1000)) + 1)) * (wrap64 (Int.tmod a2 1000))))), (rd_T33 t389 x33_1).f1⟩ : S33)] : List (S33)) : List (S33))).bind fun y413 => (if x13_1.length + y413.length < 8796093022208 then (marigraphlaw12_AggShift.l0 k1 a3 t388 (wrap64 ((wrap64 (Int.tmod a1 1000)) + 1)) (wrap64 (Int.tmod a2 1000)) y410 (x13_1 ++ y413) t389 (t389.length : Int) (wrap64 (x33_1 + 1))) else (none))) = some r := by first | (rw [hy410]; with_reducible exact H) | (have H2_ := (Option.bind_some _ _).symm.trans H; rw [hy410]; with_reducible exact H2_) | (have H2_ := (Option.bind_some _ _).symm.trans H; with_reducible exact H2_) | with_reducible exact H | (rw [hy410]; exact H) | exact H
                have Ny410 := Aside0.mk hy410
                clear hy410
                obtain ⟨y413, hy413⟩ : ∃ y_ : List (S33), y_ = (([(⟨wrap64 ((Int.tmod ((rd_T33 t389 x33_1).f0) 1099511627776) + (wrap64 ((wrap64 ((wrap64 (Int.tmod a1 1000)) + 1)) * (wrap64 (Int.tmod a2 1000))))), (rd_T33 t389 x33_1).f1⟩ : S33)] : List (S33))) := ⟨_, rfl⟩
                replace H : (if x13_1.length + y413.length < 8796093022208 then (marigraphlaw12_AggShift.l0 k1 a3 t388 (wrap64 ((wrap64 (Int.tmod a1 1000)) + 1)) (wrap64 (Int.tmod a2 1000)) y410 (x13_1 ++ y413) t389 (t389.length : Int) (wrap64 (x33_1 + 1))) else (none)) = some r := by first | (rw [hy413]; with_reducible exact H) | (have H2_ := (Option.bind_some _ _).symm.trans H; rw [hy413]; with_reducible exact H2_) | (have H2_ := (Option.bind_some _ _).symm.trans H; with_reducible exact H2_) | with_reducible exact H | (rw [hy413]; exact H) | exact H
                have Ny413 := Aside0.mk hy413
                clear hy413
                by_cases c39 : x13_1.length + y413.length < 8796093022208
                · rw [if_pos c39] at H
                  have LMc39 := Aside0.mk c39
                  clear c39
                  obtain ⟨y416, hy416⟩ : ∃ y_ : List (S33), y_ = (x13_1 ++ y413) := ⟨_, rfl⟩
                  replace H : (marigraphlaw12_AggShift.l0 k1 a3 t388 (wrap64 ((wrap64 (Int.tmod a1 1000)) + 1)) (wrap64 (Int.tmod a2 1000)) y410 y416 t389 (t389.length : Int) (wrap64 (x33_1 + 1))) = some r := by first | (rw [hy416]; with_reducible exact H) | (have H2_ := (Option.bind_some _ _).symm.trans H; rw [hy416]; with_reducible exact H2_) | (have H2_ := (Option.bind_some _ _).symm.trans H; with_reducible exact H2_) | with_reducible exact H | (rw [hy416]; exact H) | exact H
                  have Ny416 := Aside0.mk hy416
                  clear hy416
                  have H' := Aside0.mk H
                  clear H
                  have p392 : 0 ≤ (x33_1 : Int) := of_decide_eq_true (by first | (with_reducible assumption) | assumption)
                  have q392 : x33_1 < (t389.length : Int) := of_decide_eq_true (by first | (with_reducible assumption) | assumption)
                  obtain ⟨ad392, e392, hx392_0, hx392_1⟩ := at_T33 (Kd.V_reads' HO_31.out).2.2 x33_1 p392 q392
                  cases e392
                  replace p392 := eq_true p392
                  replace q392 := eq_true q392
                  try go_wp2_with (first | ((with_reducible refine gate_dst (N := 15) rfl ?_); (try (refine gate_guard (by rfl) ?_; dsimp only)); refine box_event ?hg (N := 15) ?hd (cs := #[.int .i64 0, .int .i64 0]) (t := 33) ?hr ?_; (case hd => rfl); (case hg => rfl); (case hr => first | (go_simp; done) | (go_simp; rfl)); intro gb393 hg w40 hbox hb; have n0_ := Aside0.mk (Kd.R_below (Kd.R_elderB (by (with_reducible repeat (first | apply Kd.R_alloc | apply Kd.R_drewN | apply Kd.R_drew)); exact HO_12.out) gb393 (Nat.le_of_eq hg.symm)) hb); have n1_ := Aside0.mk (Kd.R_below (Kd.R_elderB (by (with_reducible repeat (first | apply Kd.R_alloc | apply Kd.R_drewN | apply Kd.R_drew)); exact HO_13.out) gb393 (Nat.le_of_eq hg.symm)) hb); have n2_ := Aside0.mk (Kd.V_below (Kd.V_elderB (by (with_reducible repeat (first | apply Kd.V_alloc | apply Kd.V_drewN | apply Kd.V_drew)); exact HO_31.out) gb393 (Nat.le_of_eq hg.symm)) hb); have n3_ := Aside0.mk (below_step (by repeat (first | (with_reducible first | exact HB.out | apply below_alloc | apply pw_below_drewN | apply below_drew1) | exact HB.out)) hb); have n4_ := Aside0.mk (hbox); have n5_ := Aside0.mk ((by rw [hg]; exact (below_size (by repeat (first | (with_reducible first | exact HB.out | apply below_alloc | apply pw_below_drewN | apply below_drew1) | exact HB.out))) : w.heap.size ≤ gb393)); have n6_ := Aside0.mk ((by rw [hg]; exact (below_size (by repeat (first | (with_reducible first | exact HB.out | apply below_alloc | apply pw_below_drewN | apply below_drew1) | exact HB.out))) : w.heap.size ≤ gb393)); clear HO_12; clear HO_13; clear HO_31; clear HB; have HO_12 := n0_; have HO_13 := n1_; have HO_31 := n2_; have HB := n3_; have BK393 := n4_; have GW393 := n5_; have GE393 := n6_; clear n0_ n1_ n2_ n3_ n4_ n5_ n6_; clear hb hbox hg; have hcz41_0 : w40.cell? ⟨gb393, 0, none⟩ = some (.int .i64 0) := (blk_cell BK393.out 0).trans rfl; have hcz41_1 : w40.cell? ⟨gb393, 1, none⟩ = some (.int .i64 0) := (blk_cell BK393.out 1).trans rfl; have hfz41_0 := blk_frozen BK393.out 0; have hfz41_1 := blk_frozen BK393.out 1; obtain ⟨Ao42, co42, eo42⟩ := Kd.R_slice HO_12.out; subst eo42; obtain ⟨Ao43, co43, eo43⟩ := Kd.R_slice HO_13.out; subst eo43))
                  have n0_ : Aside0 (Kd.R k33 33 ((w40.setCell ⟨gb393, 0, none⟩ (.int .i64 ((rd_T33 t389 x33_1).f0))).setCell ⟨gb393, 1, none⟩ (.int .i64 ((rd_T33 t389 x33_1).f1))) w.heap.size (fun k_ => some k_ ≠ (.slice Ao43 x13_1.length co43 : Value).ownBlock ∧ k_ ≠ gb393) (.slice Ao42 x12_1.length co42) x12_1) := ⟨by (with_reducible repeat (first | apply Kd.R_alloc | apply Kd.R_drewN | apply Kd.R_drew)); exact Kd.R_mono (Kd.R_far (p := ⟨gb393, 1, none⟩) (Kd.R_far (p := ⟨gb393, 0, none⟩) (Kd.R_mono HO_12.out (fun k_ hk => (⟨hk, hk.2⟩ : _ ∧ k_ ≠ gb393))) (fun _ hk => hk.2) (.int .i64 ((rd_T33 t389 x33_1).f0))) (fun _ hk => hk.2) (.int .i64 ((rd_T33 t389 x33_1).f1))) (fun _ hk => ⟨hk.1.1, hk.1.2⟩)⟩
                  have n1_ : Aside0 (Kd.R k33 33 ((w40.setCell ⟨gb393, 0, none⟩ (.int .i64 ((rd_T33 t389 x33_1).f0))).setCell ⟨gb393, 1, none⟩ (.int .i64 ((rd_T33 t389 x33_1).f1))) w.heap.size (fun k_ => some k_ ≠ (.slice Ao42 x12_1.length co42 : Value).ownBlock ∧ k_ ≠ gb393) (.slice Ao43 x13_1.length co43) x13_1) := ⟨by (with_reducible repeat (first | apply Kd.R_alloc | apply Kd.R_drewN | apply Kd.R_drew)); exact Kd.R_mono (Kd.R_far (p := ⟨gb393, 1, none⟩) (Kd.R_far (p := ⟨gb393, 0, none⟩) (Kd.R_mono HO_13.out (fun k_ hk => (⟨hk, hk.2⟩ : _ ∧ k_ ≠ gb393))) (fun _ hk => hk.2) (.int .i64 ((rd_T33 t389 x33_1).f0))) (fun _ hk => hk.2) (.int .i64 ((rd_T33 t389 x33_1).f1))) (fun _ hk => ⟨hk.1.1, hk.1.2⟩)⟩
                  have n2_ : Aside0 (Kd.V k33 33 ((w40.setCell ⟨gb393, 0, none⟩ (.int .i64 ((rd_T33 t389 x33_1).f0))).setCell ⟨gb393, 1, none⟩ (.int .i64 ((rd_T33 t389 x33_1).f1))) w.heap.size (fun k_ => some k_ ≠ (.slice Ao42 x12_1.length co42 : Value).ownBlock ∧ some k_ ≠ (.slice Ao43 x13_1.length co43 : Value).ownBlock ∧ k_ ≠ gb393) (.slice (some ad392) t389.length co9) t389) := ⟨by (with_reducible repeat (first | apply Kd.V_alloc | apply Kd.V_drewN | apply Kd.V_drew)); exact Kd.V_mono (Kd.V_far (p := ⟨gb393, 1, none⟩) (Kd.V_far (p := ⟨gb393, 0, none⟩) (Kd.V_mono HO_31.out (fun k_ hk => (⟨hk, hk.2⟩ : _ ∧ k_ ≠ gb393))) (fun _ hk => hk.2) (.int .i64 ((rd_T33 t389 x33_1).f0))) (fun _ hk => hk.2) (.int .i64 ((rd_T33 t389 x33_1).f1))) (fun _ hk => ⟨hk.1.1.1, ⟨hk.1.1.2, hk.1.2⟩⟩)⟩
                  have n3_ : Aside0 (((w40.setCell ⟨gb393, 0, none⟩ (.int .i64 ((rd_T33 t389 x33_1).f0))).setCell ⟨gb393, 1, none⟩ (.int .i64 ((rd_T33 t389 x33_1).f1))).heap[gb393]? = some (.cells #[.int .i64 ((rd_T33 t389 x33_1).f0), .int .i64 ((rd_T33 t389 x33_1).f1)] 33 (0, 0))) := ⟨by (with_reducible repeat (first | refine blk_drewN ?_ _ | refine blk_drew ?_ | refine blk_alloc ?_ _)); refine blk_put (cs := #[.int .i64 ((rd_T33 t389 x33_1).f0), .int .i64 0]) ?_ 1 _ rfl; (with_reducible repeat (first | refine blk_drewN ?_ _ | refine blk_drew ?_ | refine blk_alloc ?_ _)); refine blk_put (cs := #[.int .i64 0, .int .i64 0]) ?_ 0 _ rfl; (with_reducible repeat (first | refine blk_drewN ?_ _ | refine blk_drew ?_ | refine blk_alloc ?_ _)); exact BK393.out⟩
                  have n4_ : Aside0 (Below w.heap.size w ((w40.setCell ⟨gb393, 0, none⟩ (.int .i64 ((rd_T33 t389 x33_1).f0))).setCell ⟨gb393, 1, none⟩ (.int .i64 ((rd_T33 t389 x33_1).f1)))) := ⟨by repeat (first | (with_reducible first | exact HB.out | apply below_alloc | apply pw_below_drewN | apply below_drew1 | refine below_set ?_ GE393.out) | exact HB.out)⟩
                  (try clear HO_12)
                  (try clear HO_13)
                  (try clear HO_31)
                  (try clear BK393)
                  (try clear HB)
                  generalize ((w40.setCell ⟨gb393, 0, none⟩ (.int .i64 ((rd_T33 t389 x33_1).f0))).setCell ⟨gb393, 1, none⟩ (.int .i64 ((rd_T33 t389 x33_1).f1))) = w44 at n0_ n1_ n2_ n3_ n4_ ⊢
                  have HO_12 := n0_
                  have HO_13 := n1_
                  have HO_31 := n2_
                  have BK393 := n3_
                  have HB := n4_
                  clear n0_ n1_ n2_ n3_ n4_
                  have n0_ := Aside0.mk (Kd.R_drew HO_12.out)
                  have n1_ := Aside0.mk (Kd.R_drew HO_13.out)
                  have n2_ := Aside0.mk (Kd.V_drew HO_31.out)
                  have n3_ := Aside0.mk (blk_drew BK393.out)
                  have n4_ := Aside0.mk (below_drew1 HB.out)
                  clear HO_12
                  clear HO_13
                  clear HO_31
                  clear BK393
                  clear HB
                  have HO_12 := n0_
                  have HO_13 := n1_
                  have HO_31 := n2_
                  have BK393 := n3_
                  have HB := n4_
                  clear n0_ n1_ n2_ n3_ n4_
                  refine start_ (n := 20) (S := fun w' => w'.cell? ⟨gb393, 0, none⟩ = some (.int .i64 ((rd_T33 t389 x33_1).f0)) ∧ w'.cell? ⟨gb393, 1, none⟩ = some (.int .i64 ((rd_T33 t389 x33_1).f1))) (ds := []) #[false, false, false, false, false, false, false, false, false, false, false, false, false, false, false, false, false, false, false, false] (by kernel_rfl) rfl rfl ⟨(blk_cell BK393.out 0).trans rfl, (blk_cell BK393.out 1).trans rfl⟩ (fun hHeld => ?_); refine with_tabW marigraphlaw12_AggShift.tab9 marigraphlaw12_AggShift.bits9 (fun HT_ HW_ => ?_)
                  generalize w44.drew = w45 at HO_12 HO_13 HO_31 BK393 HB hHeld ⊢
                  refine pure_ (i := 0) (N := some 54) (v := ?_) (a' := ?_) #[true, false, false, false, false, false, false, false, false, false, false, false, false, false, false, false, false, false, false, false] rfl rfl (any_of HT_.out (by kernel_rfl)) (fun _ _ _ h => h) (Or.inl ⟨by rfl, ?_⟩) ?_ ?_
                  rotate_left
                  · intro w'
                    go_simp
                    with_reducible rfl
                  rotate_left
                  · simp only [Act.put, List.setIfInBounds_toArray, List.set_cons_zero, List.set_cons_succ, i64_w, i32_w]
                    rfl
                  refine pure_ (i := 1) (N := some 55) (v := ?_) (a' := ?_) #[true, true, false, false, false, false, false, false, false, false, false, false, false, false, false, false, false, false, false, false] rfl rfl (any_of HT_.out (by kernel_rfl)) (fun _ _ _ h => h) (Or.inl ⟨by rfl, ?_⟩) ?_ ?_
                  rotate_left
                  · intro w'
                    go_simp
                    with_reducible rfl
                  rotate_left
                  · simp only [Act.put, List.setIfInBounds_toArray, List.set_cons_zero, List.set_cons_succ, i64_w, i32_w]
                    rfl
                  refine pure_ (i := 2) (N := some 56) (v := ?_) (a' := ?_) #[true, true, true, false, false, false, false, false, false, false, false, false, false, false, false, false, false, false, false, false] rfl rfl (any_of HT_.out (by kernel_rfl)) (fun _ _ _ h => h) (Or.inl ⟨by rfl, ?_⟩) ?_ ?_
                  rotate_left
                  · intro w'
                    go_simp
                    with_reducible rfl
                  rotate_left
                  · simp only [Act.put, List.setIfInBounds_toArray, List.set_cons_zero, List.set_cons_succ, i64_w, i32_w]
                    rfl
                  refine pure_ (i := 7) (N := some 61) (v := ?_) (a' := ?_) #[true, true, true, false, false, false, false, true, false, false, false, false, false, false, false, false, false, false, false, false] rfl rfl (any_of HT_.out (by kernel_rfl)) (fun _ _ _ h => h) (Or.inl ⟨by rfl, ?_⟩) ?_ ?_
                  rotate_left
                  · intro w'
                    go_simp
                    with_reducible rfl
                  rotate_left
                  · simp only [Act.put, List.setIfInBounds_toArray, List.set_cons_zero, List.set_cons_succ, i64_w, i32_w]
                    rfl
                  refine pure_ (i := 8) (N := some 62) (v := ?_) (a' := ?_) #[true, true, true, false, false, false, false, true, true, false, false, false, false, false, false, false, false, false, false, false] rfl rfl (any_of HT_.out (by kernel_rfl)) (fun _ _ _ h => h) (Or.inl ⟨by rfl, ?_⟩) ?_ ?_
                  rotate_left
                  · intro w'
                    go_simp
                    with_reducible rfl
                  rotate_left
                  · simp only [Act.put, List.setIfInBounds_toArray, List.set_cons_zero, List.set_cons_succ, i64_w, i32_w]
                    rfl
                  refine pure_ (i := 9) (N := some 63) (v := ?_) (a' := ?_) #[true, true, true, false, false, false, false, true, true, true, false, false, false, false, false, false, false, false, false, false] rfl rfl (any_of HT_.out (by kernel_rfl)) (fun _ _ _ h => h) (Or.inl ⟨by rfl, ?_⟩) ?_ ?_
                  rotate_left
                  · intro w'
                    go_simp
                    with_reducible rfl
                  rotate_left
                  · simp only [Act.put, List.setIfInBounds_toArray, List.set_cons_zero, List.set_cons_succ, i64_w, i32_w]
                    rfl
                  refine pure_ (i := 10) (N := some 64) (v := ?_) (a' := ?_) #[true, true, true, false, false, false, false, true, true, true, true, false, false, false, false, false, false, false, false, false] rfl rfl (any_of HT_.out (by kernel_rfl)) (fun _ _ _ h => h) (Or.inl ⟨by rfl, ?_⟩) ?_ ?_
                  rotate_left
                  · intro w'
                    go_simp
                    with_reducible rfl
                  rotate_left
                  · simp only [Act.put, List.setIfInBounds_toArray, List.set_cons_zero, List.set_cons_succ, i64_w, i32_w]
                    rfl
                  refine pure_ (i := 11) (N := some 65) (v := ?_) (a' := ?_) #[true, true, true, false, false, false, false, true, true, true, true, true, false, false, false, false, false, false, false, false] rfl rfl (any_of HT_.out (by kernel_rfl)) (fun _ _ _ h => h) (Or.inl ⟨by rfl, ?_⟩) ?_ ?_
                  rotate_left
                  · intro w'
                    go_simp
                    with_reducible rfl
                  rotate_left
                  · simp only [Act.put, List.setIfInBounds_toArray, List.set_cons_zero, List.set_cons_succ, i64_w, i32_w]
                    rfl
                  refine pure_ (i := 12) (N := some 66) (v := ?_) (a' := ?_) #[true, true, true, false, false, false, false, true, true, true, true, true, true, false, false, false, false, false, false, false] rfl rfl (any_of HT_.out (by kernel_rfl)) (fun _ _ _ h => h) (Or.inl ⟨by rfl, ?_⟩) ?_ ?_
                  rotate_left
                  · intro w'
                    go_simp
                    with_reducible rfl
                  rotate_left
                  · simp only [Act.put, List.setIfInBounds_toArray, List.set_cons_zero, List.set_cons_succ, i64_w, i32_w]
                    rfl
                  refine pure_ (i := 13) (N := some 67) (v := ?_) (a' := ?_) #[true, true, true, false, false, false, false, true, true, true, true, true, true, true, false, false, false, false, false, false] rfl rfl (any_of HT_.out (by kernel_rfl)) (fun _ _ _ h => h) (Or.inl ⟨by rfl, ?_⟩) ?_ ?_
                  rotate_left
                  · intro w'
                    go_simp
                    with_reducible rfl
                  rotate_left
                  · simp only [Act.put, List.setIfInBounds_toArray, List.set_cons_zero, List.set_cons_succ, i64_w, i32_w]
                    rfl
                  refine take_ (i := 3) (N := some 57) (v := ?_) (a' := ?_) #[true, true, true, true, false, false, false, true, true, true, true, true, true, true, false, false, false, false, false, false] rfl rfl (take_ofW HT_.out HW_.out (by kernel_rfl)) (fun _ _ _ h => h) (Or.inl ⟨by rfl, ?_⟩) hHeld ?_ ?_
                  rotate_left
                  · rintro w' ⟨s0, s1⟩
                    go_simp
                    with_reducible rfl
                  rotate_left
                  · simp only [Act.put, List.setIfInBounds_toArray, List.set_cons_zero, List.set_cons_succ, i64_w, i32_w]
                    rfl
                  refine pure_ (i := 4) (N := some 58) (v := ?_) (a' := ?_) #[true, true, true, true, true, false, false, true, true, true, true, true, true, true, false, false, false, false, false, false] rfl rfl (any_of HT_.out (by kernel_rfl)) (fun _ _ _ h => h) (Or.inl ⟨by rfl, ?_⟩) ?_ ?_
                  rotate_left
                  · intro w'
                    go_simp
                    with_reducible rfl
                  rotate_left
                  · simp only [Act.put, List.setIfInBounds_toArray, List.set_cons_zero, List.set_cons_succ, i64_w, i32_w]
                    rfl
                  refine take_ (i := 14) (N := some 68) (v := ?_) (a' := ?_) #[true, true, true, true, true, false, false, true, true, true, true, true, true, true, true, false, false, false, false, false] rfl rfl (take_ofW HT_.out HW_.out (by kernel_rfl)) (fun _ _ _ h => h) (Or.inl ⟨by rfl, ?_⟩) hHeld ?_ ?_
                  rotate_left
                  · rintro w' ⟨s0, s1⟩
                    go_simp
                    with_reducible rfl
                  rotate_left
                  · simp only [Act.put, List.setIfInBounds_toArray, List.set_cons_zero, List.set_cons_succ, i64_w, i32_w]
                    rfl
                  refine pure_ (i := 15) (N := some 69) (v := ?_) (a' := ?_) #[true, true, true, true, true, false, false, true, true, true, true, true, true, true, true, true, false, false, false, false] rfl rfl (any_of HT_.out (by kernel_rfl)) (fun _ _ _ h => h) (Or.inl ⟨by rfl, ?_⟩) ?_ ?_
                  rotate_left
                  · intro w'
                    go_simp
                    with_reducible rfl
                  rotate_left
                  · simp only [Act.put, List.setIfInBounds_toArray, List.set_cons_zero, List.set_cons_succ, i64_w, i32_w]
                    rfl
                  refine join_ (σ := Value × Value × Value) 3 #[true, true, true, true, true, true, true, true, true, true, true, true, true, true, true, true, true, false, false, false] (fun s_ => [(59, s_.1), (60, s_.2.1), (70, s_.2.2)]) (fun s_ w' => (w'.cell? ⟨gb393, 0, none⟩ = some (.int .i64 ((rd_T33 t389 x33_1).f0)) ∧ w'.cell? ⟨gb393, 1, none⟩ = some (.int .i64 ((rd_T33 t389 x33_1).f1))) ∧ (Kd.R k33 33 w' w.heap.size (fun k_ => some k_ ≠ (s_.2.1 : Value).ownBlock ∧ some k_ ≠ (s_.2.2 : Value).ownBlock ∧ some k_ ≠ (.slice Ao43 x13_1.length co43 : Value).ownBlock ∧ k_ ≠ gb393) s_.1 y407) ∧ (Kd.R k33 33 w' w.heap.size (fun k_ => some k_ ≠ (s_.1 : Value).ownBlock ∧ some k_ ≠ (s_.2.2 : Value).ownBlock ∧ some k_ ≠ (.slice Ao43 x13_1.length co43 : Value).ownBlock ∧ k_ ≠ gb393) s_.2.1 y410) ∧ (Kd.R k33 33 w' w.heap.size (fun k_ => some k_ ≠ (s_.1 : Value).ownBlock ∧ some k_ ≠ (s_.2.1 : Value).ownBlock ∧ some k_ ≠ (.slice Ao43 x13_1.length co43 : Value).ownBlock ∧ k_ ≠ gb393) s_.2.2 y413) ∧ (Kd.R k33 33 w' w.heap.size (fun k_ => some k_ ≠ (s_.1 : Value).ownBlock ∧ some k_ ≠ (s_.2.1 : Value).ownBlock ∧ some k_ ≠ (s_.2.2 : Value).ownBlock ∧ k_ ≠ gb393) (.slice Ao43 x13_1.length co43) x13_1) ∧ (Kd.V k33 33 w' w.heap.size (fun k_ => some k_ ≠ (s_.1 : Value).ownBlock ∧ some k_ ≠ (s_.2.1 : Value).ownBlock ∧ some k_ ≠ (s_.2.2 : Value).ownBlock ∧ some k_ ≠ (.slice Ao43 x13_1.length co43 : Value).ownBlock ∧ k_ ≠ gb393) (.slice (some ad392) t389.length co9) t389) ∧ (w'.heap[gb393]? = some (.cells #[.int .i64 ((rd_T33 t389 x33_1).f0), .int .i64 ((rd_T33 t389 x33_1).f1)] 33 (0, 0))) ∧ (Below w.heap.size w w')) ?_ ?_
                  rotate_left
                  · intro hCont
                    refine two_ (i := 5) (j := 16) (Ni := some 59) (Nj := some 70) #[true, true, true, true, true, true, false, true, true, true, true, true, true, true, true, true, false, false, false, false] #[true, true, true, true, true, false, false, true, true, true, true, true, true, true, true, true, true, false, false, false] rfl rfl rfl rfl (two_of HT_.out (by kernel_rfl)) (by decide) (by decide) (fun K hK => ?_) (fun K hK => ?_)
                    · skip
                      refine Kd.R_lit_step k33 _ 33 ?hg (N := 59) ?hd (xs := ([(⟨Int.tmod ((rd_T33 t389 x33_1).f0) 1099511627776, (rd_T33 t389 x33_1).f1⟩ : S33)] : List (S33))) (inner := [.int .i64 (Int.tmod ((rd_T33 t389 x33_1).f0) 1099511627776), .int .i64 ((rd_T33 t389 x33_1).f1)]) (ok := fun _ => True) (okp := fun _ => True) ?hr ?hp (fun _ hk => hk) trivial (Below.refl _ _) (Nat.le_refl _) (by simp) ?_; (case hd => rfl); (case hg => rfl); (case hr => first | (go_simp; done) | (go_simp; rfl)); (case hp => exact (Reps.c2 (show Kd.M k33 _ _ _ (⟨Int.tmod ((rd_T33 t389 x33_1).f0) 1099511627776, (rd_T33 t389 x33_1).f1⟩ : S33) [.int .i64 (Int.tmod ((rd_T33 t389 x33_1).f0) 1099511627776), .int .i64 ((rd_T33 t389 x33_1).f1)] from (k33_mkM _ _ _ (⟨Int.tmod ((rd_T33 t389 x33_1).f0) 1099511627776, (rd_T33 t389 x33_1).f1⟩ : S33) )) (Reps.none _ _)))
                      intro v408 w46 ho47 hb hg_ hnew_
                      clear hg_ hnew_
                      (first | rw [← Ny407.out] at ho47 | (simp only [Int.reduceToNat] at ho47; rw [← Ny407.out] at ho47))
                      have n0_ := Aside0.mk (Kd.R_elder' (by (with_reducible repeat (first | apply Kd.R_alloc | apply Kd.R_drewN | apply Kd.R_drew)); exact HO_12.out) (Kd.R_base ho47) hb)
                      have n1_ := Aside0.mk (Kd.R_elder' (by (with_reducible repeat (first | apply Kd.R_alloc | apply Kd.R_drewN | apply Kd.R_drew)); exact HO_13.out) (Kd.R_base ho47) hb)
                      have n2_ := Aside0.mk (Kd.V_elder' (by (with_reducible repeat (first | apply Kd.V_alloc | apply Kd.V_drewN | apply Kd.V_drew)); exact HO_31.out) (Kd.R_base ho47) hb)
                      have n3_ := Aside0.mk (Kd.R_lower (Kd.R_newB (Kd.R_new' (Kd.R_new' ho47 (Kd.R_lt (by (with_reducible repeat (first | apply Kd.R_alloc | apply Kd.R_drewN | apply Kd.R_drew)); exact HO_12.out))) (Kd.R_lt (by (with_reducible repeat (first | apply Kd.R_alloc | apply Kd.R_drewN | apply Kd.R_drew)); exact HO_13.out))) (g := gb393) (o := .cells #[.int .i64 ((rd_T33 t389 x33_1).f0), .int .i64 ((rd_T33 t389 x33_1).f1)] 33 (0, 0)) (by (with_reducible repeat (first | refine blk_drewN ?_ _ | refine blk_drew ?_ | refine blk_alloc ?_ _)); exact BK393.out)) (below_size (by repeat (first | (with_reducible first | exact HB.out | apply below_alloc | apply pw_below_drewN | apply below_drew1 | refine below_set ?_ GE393.out) | exact HB.out))))
                      have n4_ := Aside0.mk (blk_below (g := gb393) (o := .cells #[.int .i64 ((rd_T33 t389 x33_1).f0), .int .i64 ((rd_T33 t389 x33_1).f1)] 33 (0, 0)) (by (with_reducible repeat (first | refine blk_drewN ?_ _ | refine blk_drew ?_ | refine blk_alloc ?_ _)); exact BK393.out) hb)
                      have n5_ := Aside0.mk (below_step (by repeat (first | (with_reducible first | exact HB.out | apply below_alloc | apply pw_below_drewN | apply below_drew1 | refine below_set ?_ GE393.out) | exact HB.out)) hb)
                      clear HO_12
                      clear HO_13
                      clear HO_31
                      clear BK393
                      clear HB
                      have HO_12 := n0_
                      have HO_13 := n1_
                      have HO_31 := n2_
                      have HO409 := n3_
                      have BK393 := n4_
                      have HB := n5_
                      clear n0_ n1_ n2_ n3_ n4_ n5_
                      clear hb ho47
                      obtain ⟨Ao49, co49, eo49⟩ := Kd.R_slice HO409.out
                      (first | subst eo49 | (injection eo49 with f1_ f2_ f3_; have f4_ := f1_.symm; have f5_ := f3_.symm; clear f1_ f2_ f3_; subst f4_; subst f5_))
                      refine hK.out _ _ ⟨(blk_cell BK393.out 0).trans rfl, (blk_cell BK393.out 1).trans rfl⟩ (fun hHeld => ?_)
                      clear hK K
                      refine norm_ (a' := ?_) ?_ ?_
                      rotate_left
                      · show Act.put _ (some 59) _ = _
                        simp only [Act.put, List.setIfInBounds_toArray, List.set_cons_zero, List.set_cons_succ, i64_w, i32_w]
                        rfl
                      refine two_ (i := 6) (j := 16) (Ni := some 60) (Nj := some 70) #[true, true, true, true, true, true, true, true, true, true, true, true, true, true, true, true, false, false, false, false] #[true, true, true, true, true, true, false, true, true, true, true, true, true, true, true, true, true, false, false, false] rfl rfl rfl rfl (two_of HT_.out (by kernel_rfl)) (by decide) (by decide) (fun K hK => ?_) (fun K hK => ?_)
                      · skip
                        refine Kd.R_append_rows_step k33 (w0 := w) w.heap.size (by rfl) (.tmp 54) (.tmp 59) 30 33 (.agg #[(.int .i64 0), (.int .i64 0)]) 16 rfl Try.underlying30 info33 rfl (by decide) (by omega) (.slice Ao42 x12_1.length co42) x12_1 y407 _ _ _ (fun k_ => some k_ ≠ (.slice Ao43 x13_1.length co43 : Value).ownBlock ∧ some k_ ≠ (.slice Ao49 y407.length co49 : Value).ownBlock ∧ k_ ≠ gb393) (fun _ => False) rfl rfl ?aO ?aR (fun _ _ h => h) (fun _ h => h.elim) ?aF ?aB ?aS ?aL ?_
                        (case aR => repeat (first | exact (Kd.R_reads' HO409.out).2.2 | (with_reducible refine Kd.C_alloc ?_ _) | (with_reducible refine Kd.C_drewN ?_ _) | (with_reducible refine Kd.C_drew ?_)))
                        (case aB => exact (by repeat (first | (with_reducible first | exact HB.out | apply below_alloc | apply pw_below_drewN | apply below_drew1 | refine below_set ?_ GE393.out) | exact HB.out)))
                        (case aF => exact (fun k_ hk => ⟨Kd.fresh' (Kd.R_lt (by (with_reducible repeat (first | apply Kd.R_alloc | apply Kd.R_drewN | apply Kd.R_drew)); exact HO_13.out)) k_ hk, Kd.fresh' (Kd.R_lt (by (with_reducible repeat (first | apply Kd.R_alloc | apply Kd.R_drewN | apply Kd.R_drew)); exact HO409.out)) k_ hk, Kd.freshB (g := gb393) (o := .cells #[.int .i64 ((rd_T33 t389 x33_1).f0), .int .i64 ((rd_T33 t389 x33_1).f1)] 33 (0, 0)) (by (with_reducible repeat (first | refine blk_drewN ?_ _ | refine blk_drew ?_ | refine blk_alloc ?_ _)); exact BK393.out) k_ hk⟩))
                        (case aO => exact (by (with_reducible repeat (first | apply Kd.R_alloc | apply Kd.R_drewN | apply Kd.R_drew)); exact Kd.R_mono HO_12.out (fun _ hk => ⟨hk.1.1, ⟨hk.2, hk.1.2⟩⟩)))
                        (case aS => exact (below_size (by repeat (first | (with_reducible first | exact HB.out | apply below_alloc | apply pw_below_drewN | apply below_drew1 | refine below_set ?_ GE393.out) | exact HB.out))))
                        (case aL => have := LMc38.out; omega)
                        intro v411 w48 ho hb hg hat
                        rw [← Ny410.out] at ho
                        have n0_ := Aside0.mk (Kd.R_after (ok := (fun k_ => some k_ ≠ (.slice Ao49 y407.length co49 : Value).ownBlock ∧ k_ ≠ gb393)) (by (with_reducible repeat (first | apply Kd.R_alloc | apply Kd.R_drewN | apply Kd.R_drew)); exact Kd.R_mono HO_13.out (fun _ hk => ⟨⟨hk.2, hk.1.2⟩, hk.1.1⟩)) hg hat)
                        have n1_ := Aside0.mk (Kd.V_afterv (ok := (fun k_ => some k_ ≠ (.slice Ao43 x13_1.length co43 : Value).ownBlock ∧ some k_ ≠ (.slice Ao49 y407.length co49 : Value).ownBlock ∧ k_ ≠ gb393)) (by (with_reducible repeat (first | apply Kd.V_alloc | apply Kd.V_drewN | apply Kd.V_drew)); exact Kd.V_mono HO_31.out (fun _ hk => ⟨⟨hk.1.2.1, ⟨hk.2, hk.1.2.2⟩⟩, hk.1.1⟩)) hg hat)
                        have n2_ := Aside0.mk (blk_grown (g := gb393) (o := .cells #[.int .i64 ((rd_T33 t389 x33_1).f0), .int .i64 ((rd_T33 t389 x33_1).f1)] 33 (0, 0)) (by (with_reducible repeat (first | refine blk_drewN ?_ _ | refine blk_drew ?_ | refine blk_alloc ?_ _)); exact BK393.out) hg (Kd.R_away HO_12.out (fun _ hk => hk.1.2)))
                        have n3_ := Aside0.mk (Kd.R_after (ok := (fun k_ => some k_ ≠ (.slice Ao43 x13_1.length co43 : Value).ownBlock ∧ k_ ≠ gb393)) (by (with_reducible repeat (first | apply Kd.R_alloc | apply Kd.R_drewN | apply Kd.R_drew)); exact Kd.R_mono HO409.out (fun _ hk => ⟨⟨hk.1.2, hk.2⟩, hk.1.1.2⟩)) hg hat)
                        have n4_ := Aside0.mk (hb)
                        have n5_ := Aside0.mk (ho)
                        clear HO_13
                        clear HO_31
                        clear BK393
                        clear HO409
                        clear HB
                        clear HO_12
                        have HO_13 := n0_
                        have HO_31 := n1_
                        have BK393 := n2_
                        have HO409 := n3_
                        have HB := n4_
                        have HO412 := n5_
                        clear n0_ n1_ n2_ n3_ n4_ n5_
                        clear ho hb hg hat
                        refine hK.out _ _ ⟨(blk_cell BK393.out 0).trans rfl, (blk_cell BK393.out 1).trans rfl⟩ (fun hHeld => ?_)
                        clear hK K
                        refine norm_ (a' := ?_) ?_ ?_
                        rotate_left
                        · show Act.put _ (some 60) _ = _
                          simp only [Act.put, List.setIfInBounds_toArray, List.set_cons_zero, List.set_cons_succ, i64_w, i32_w]
                          rfl
                        refine one_ (i := 16) (N := some 70) #[true, true, true, true, true, true, true, true, true, true, true, true, true, true, true, true, true, false, false, false] rfl rfl (one_of HT_.out (by kernel_rfl)) (by decide) (fun K hK => ?_)
                        refine Kd.R_lit_step k33 _ 33 ?hg (N := 70) ?hd (xs := ([(⟨wrap64 ((Int.tmod ((rd_T33 t389 x33_1).f0) 1099511627776) + (wrap64 ((wrap64 ((wrap64 (Int.tmod a1 1000)) + 1)) * (wrap64 (Int.tmod a2 1000))))), (rd_T33 t389 x33_1).f1⟩ : S33)] : List (S33))) (inner := [.int .i64 (wrap64 ((Int.tmod ((rd_T33 t389 x33_1).f0) 1099511627776) + (wrap64 ((wrap64 ((wrap64 (Int.tmod a1 1000)) + 1)) * (wrap64 (Int.tmod a2 1000)))))), .int .i64 ((rd_T33 t389 x33_1).f1)]) (ok := fun _ => True) (okp := fun _ => True) ?hr ?hp (fun _ hk => hk) trivial (Below.refl _ _) (Nat.le_refl _) (by simp) ?_; (case hd => rfl); (case hg => rfl); (case hr => first | (go_simp; done) | (go_simp; rfl)); (case hp => exact (Reps.c2 (show Kd.M k33 _ _ _ (⟨wrap64 ((Int.tmod ((rd_T33 t389 x33_1).f0) 1099511627776) + (wrap64 ((wrap64 ((wrap64 (Int.tmod a1 1000)) + 1)) * (wrap64 (Int.tmod a2 1000))))), (rd_T33 t389 x33_1).f1⟩ : S33) [.int .i64 (wrap64 ((Int.tmod ((rd_T33 t389 x33_1).f0) 1099511627776) + (wrap64 ((wrap64 ((wrap64 (Int.tmod a1 1000)) + 1)) * (wrap64 (Int.tmod a2 1000)))))), .int .i64 ((rd_T33 t389 x33_1).f1)] from (k33_mkM _ _ _ (⟨wrap64 ((Int.tmod ((rd_T33 t389 x33_1).f0) 1099511627776) + (wrap64 ((wrap64 ((wrap64 (Int.tmod a1 1000)) + 1)) * (wrap64 (Int.tmod a2 1000))))), (rd_T33 t389 x33_1).f1⟩ : S33) )) (Reps.none _ _)))
                        intro v414 w50 ho51 hb hg_ hnew_
                        clear hg_ hnew_
                        (first | rw [← Ny413.out] at ho51 | (simp only [Int.reduceToNat] at ho51; rw [← Ny413.out] at ho51))
                        have n0_ := Aside0.mk (Kd.R_elder' (by (with_reducible repeat (first | apply Kd.R_alloc | apply Kd.R_drewN | apply Kd.R_drew)); exact HO_13.out) (Kd.R_base ho51) hb)
                        have n1_ := Aside0.mk (Kd.V_elder' (by (with_reducible repeat (first | apply Kd.V_alloc | apply Kd.V_drewN | apply Kd.V_drew)); exact HO_31.out) (Kd.R_base ho51) hb)
                        have n2_ := Aside0.mk (Kd.R_elder' (by (with_reducible repeat (first | apply Kd.R_alloc | apply Kd.R_drewN | apply Kd.R_drew)); exact HO409.out) (Kd.R_base ho51) hb)
                        have n3_ := Aside0.mk (Kd.R_elder' (by (with_reducible repeat (first | apply Kd.R_alloc | apply Kd.R_drewN | apply Kd.R_drew)); exact HO412.out) (Kd.R_base ho51) hb)
                        have n4_ := Aside0.mk (Kd.R_lower (Kd.R_newB (Kd.R_new' (Kd.R_new' (Kd.R_new' ho51 (Kd.R_lt (by (with_reducible repeat (first | apply Kd.R_alloc | apply Kd.R_drewN | apply Kd.R_drew)); exact HO_13.out))) (Kd.R_lt (by (with_reducible repeat (first | apply Kd.R_alloc | apply Kd.R_drewN | apply Kd.R_drew)); exact HO409.out))) (Kd.R_lt (by (with_reducible repeat (first | apply Kd.R_alloc | apply Kd.R_drewN | apply Kd.R_drew)); exact HO412.out))) (g := gb393) (o := .cells #[.int .i64 ((rd_T33 t389 x33_1).f0), .int .i64 ((rd_T33 t389 x33_1).f1)] 33 (0, 0)) (by (with_reducible repeat (first | refine blk_drewN ?_ _ | refine blk_drew ?_ | refine blk_alloc ?_ _)); exact BK393.out)) (below_size (by repeat (first | (with_reducible first | exact HB.out | apply below_alloc | apply pw_below_drewN | apply below_drew1 | refine below_set ?_ GE393.out) | exact HB.out))))
                        have n5_ := Aside0.mk (blk_below (g := gb393) (o := .cells #[.int .i64 ((rd_T33 t389 x33_1).f0), .int .i64 ((rd_T33 t389 x33_1).f1)] 33 (0, 0)) (by (with_reducible repeat (first | refine blk_drewN ?_ _ | refine blk_drew ?_ | refine blk_alloc ?_ _)); exact BK393.out) hb)
                        have n6_ := Aside0.mk (below_step (by repeat (first | (with_reducible first | exact HB.out | apply below_alloc | apply pw_below_drewN | apply below_drew1 | refine below_set ?_ GE393.out) | exact HB.out)) hb)
                        clear HO_13
                        clear HO_31
                        clear HO409
                        clear HO412
                        clear BK393
                        clear HB
                        have HO_13 := n0_
                        have HO_31 := n1_
                        have HO409 := n2_
                        have HO412 := n3_
                        have HO415 := n4_
                        have BK393 := n5_
                        have HB := n6_
                        clear n0_ n1_ n2_ n3_ n4_ n5_ n6_
                        clear hb ho51
                        refine hK.out _ _ ⟨(blk_cell BK393.out 0).trans rfl, (blk_cell BK393.out 1).trans rfl⟩ (fun hHeld => ?_)
                        clear hK K
                        refine norm_ (a' := ?_) ?_ ?_
                        rotate_left
                        · show Act.put _ (some 70) _ = _
                          simp only [Act.put, List.setIfInBounds_toArray, List.set_cons_zero, List.set_cons_succ, i64_w, i32_w]
                          rfl
                        exact norm_ (by simp only [putAll, Act.put, List.setIfInBounds_toArray, List.set_cons_zero, List.set_cons_succ]) (hCont (.slice Ao49 y407.length co49, v411, v414) _ ⟨hHeld, (by (with_reducible repeat (first | apply Kd.R_alloc | apply Kd.R_drewN | apply Kd.R_drew)); exact Kd.R_mono HO409.out (fun _ hk => ⟨hk.1.2, ⟨hk.2, ⟨hk.1.1.1, hk.1.1.2⟩⟩⟩)), (by (with_reducible repeat (first | apply Kd.R_alloc | apply Kd.R_drewN | apply Kd.R_drew)); exact Kd.R_mono HO412.out (fun _ hk => ⟨hk.1.2.1, ⟨hk.2, ⟨hk.1.1, hk.1.2.2⟩⟩⟩)), (by (with_reducible repeat (first | apply Kd.R_alloc | apply Kd.R_drewN | apply Kd.R_drew)); exact Kd.R_mono HO415.out (fun _ hk => ⟨hk.1.1.2, ⟨hk.1.2, ⟨hk.1.1.1.2, hk.2⟩⟩⟩)), (by (with_reducible repeat (first | apply Kd.R_alloc | apply Kd.R_drewN | apply Kd.R_drew)); exact Kd.R_mono HO_13.out (fun _ hk => ⟨hk.1.1.1, ⟨hk.1.2, ⟨hk.2, hk.1.1.2⟩⟩⟩)), (by (with_reducible repeat (first | apply Kd.V_alloc | apply Kd.V_drewN | apply Kd.V_drew)); exact Kd.V_mono HO_31.out (fun _ hk => ⟨hk.1.1.2.1, ⟨hk.1.2, ⟨hk.2, ⟨hk.1.1.1, hk.1.1.2.2⟩⟩⟩⟩)), (by (with_reducible repeat (first | refine blk_drewN ?_ _ | refine blk_drew ?_ | refine blk_alloc ?_ _)); exact BK393.out), (by repeat (first | (with_reducible first | exact HB.out | apply below_alloc | apply pw_below_drewN | apply below_drew1 | refine below_set ?_ GE393.out) | exact HB.out))⟩)
                      · skip
                        refine Kd.R_lit_step k33 _ 33 ?hg (N := 70) ?hd (xs := ([(⟨wrap64 ((Int.tmod ((rd_T33 t389 x33_1).f0) 1099511627776) + (wrap64 ((wrap64 ((wrap64 (Int.tmod a1 1000)) + 1)) * (wrap64 (Int.tmod a2 1000))))), (rd_T33 t389 x33_1).f1⟩ : S33)] : List (S33))) (inner := [.int .i64 (wrap64 ((Int.tmod ((rd_T33 t389 x33_1).f0) 1099511627776) + (wrap64 ((wrap64 ((wrap64 (Int.tmod a1 1000)) + 1)) * (wrap64 (Int.tmod a2 1000)))))), .int .i64 ((rd_T33 t389 x33_1).f1)]) (ok := fun _ => True) (okp := fun _ => True) ?hr ?hp (fun _ hk => hk) trivial (Below.refl _ _) (Nat.le_refl _) (by simp) ?_; (case hd => rfl); (case hg => rfl); (case hr => first | (go_simp; done) | (go_simp; rfl)); (case hp => exact (Reps.c2 (show Kd.M k33 _ _ _ (⟨wrap64 ((Int.tmod ((rd_T33 t389 x33_1).f0) 1099511627776) + (wrap64 ((wrap64 ((wrap64 (Int.tmod a1 1000)) + 1)) * (wrap64 (Int.tmod a2 1000))))), (rd_T33 t389 x33_1).f1⟩ : S33) [.int .i64 (wrap64 ((Int.tmod ((rd_T33 t389 x33_1).f0) 1099511627776) + (wrap64 ((wrap64 ((wrap64 (Int.tmod a1 1000)) + 1)) * (wrap64 (Int.tmod a2 1000)))))), .int .i64 ((rd_T33 t389 x33_1).f1)] from (k33_mkM _ _ _ (⟨wrap64 ((Int.tmod ((rd_T33 t389 x33_1).f0) 1099511627776) + (wrap64 ((wrap64 ((wrap64 (Int.tmod a1 1000)) + 1)) * (wrap64 (Int.tmod a2 1000))))), (rd_T33 t389 x33_1).f1⟩ : S33) )) (Reps.none _ _)))
                        intro v414 w48 ho49 hb hg_ hnew_
                        clear hg_ hnew_
                        (first | rw [← Ny413.out] at ho49 | (simp only [Int.reduceToNat] at ho49; rw [← Ny413.out] at ho49))
                        have n0_ := Aside0.mk (Kd.R_elder' (by (with_reducible repeat (first | apply Kd.R_alloc | apply Kd.R_drewN | apply Kd.R_drew)); exact HO_12.out) (Kd.R_base ho49) hb)
                        have n1_ := Aside0.mk (Kd.R_elder' (by (with_reducible repeat (first | apply Kd.R_alloc | apply Kd.R_drewN | apply Kd.R_drew)); exact HO_13.out) (Kd.R_base ho49) hb)
                        have n2_ := Aside0.mk (Kd.V_elder' (by (with_reducible repeat (first | apply Kd.V_alloc | apply Kd.V_drewN | apply Kd.V_drew)); exact HO_31.out) (Kd.R_base ho49) hb)
                        have n3_ := Aside0.mk (Kd.R_elder' (by (with_reducible repeat (first | apply Kd.R_alloc | apply Kd.R_drewN | apply Kd.R_drew)); exact HO409.out) (Kd.R_base ho49) hb)
                        have n4_ := Aside0.mk (Kd.R_lower (Kd.R_newB (Kd.R_new' (Kd.R_new' (Kd.R_new' ho49 (Kd.R_lt (by (with_reducible repeat (first | apply Kd.R_alloc | apply Kd.R_drewN | apply Kd.R_drew)); exact HO_12.out))) (Kd.R_lt (by (with_reducible repeat (first | apply Kd.R_alloc | apply Kd.R_drewN | apply Kd.R_drew)); exact HO_13.out))) (Kd.R_lt (by (with_reducible repeat (first | apply Kd.R_alloc | apply Kd.R_drewN | apply Kd.R_drew)); exact HO409.out))) (g := gb393) (o := .cells #[.int .i64 ((rd_T33 t389 x33_1).f0), .int .i64 ((rd_T33 t389 x33_1).f1)] 33 (0, 0)) (by (with_reducible repeat (first | refine blk_drewN ?_ _ | refine blk_drew ?_ | refine blk_alloc ?_ _)); exact BK393.out)) (below_size (by repeat (first | (with_reducible first | exact HB.out | apply below_alloc | apply pw_below_drewN | apply below_drew1 | refine below_set ?_ GE393.out) | exact HB.out))))
                        have n5_ := Aside0.mk (blk_below (g := gb393) (o := .cells #[.int .i64 ((rd_T33 t389 x33_1).f0), .int .i64 ((rd_T33 t389 x33_1).f1)] 33 (0, 0)) (by (with_reducible repeat (first | refine blk_drewN ?_ _ | refine blk_drew ?_ | refine blk_alloc ?_ _)); exact BK393.out) hb)
                        have n6_ := Aside0.mk (below_step (by repeat (first | (with_reducible first | exact HB.out | apply below_alloc | apply pw_below_drewN | apply below_drew1 | refine below_set ?_ GE393.out) | exact HB.out)) hb)
                        clear HO_12
                        clear HO_13
                        clear HO_31
                        clear HO409
                        clear BK393
                        clear HB
                        have HO_12 := n0_
                        have HO_13 := n1_
                        have HO_31 := n2_
                        have HO409 := n3_
                        have HO415 := n4_
                        have BK393 := n5_
                        have HB := n6_
                        clear n0_ n1_ n2_ n3_ n4_ n5_ n6_
                        clear hb ho49
                        obtain ⟨Ao51, co51, eo51⟩ := Kd.R_slice HO409.out
                        (first | subst eo51 | (injection eo51 with f1_ f2_ f3_; have f4_ := f1_.symm; have f5_ := f3_.symm; clear f1_ f2_ f3_; subst f4_; subst f5_))
                        refine hK.out _ _ ⟨(blk_cell BK393.out 0).trans rfl, (blk_cell BK393.out 1).trans rfl⟩ (fun hHeld => ?_)
                        clear hK K
                        refine norm_ (a' := ?_) ?_ ?_
                        rotate_left
                        · show Act.put _ (some 70) _ = _
                          simp only [Act.put, List.setIfInBounds_toArray, List.set_cons_zero, List.set_cons_succ, i64_w, i32_w]
                          rfl
                        refine one_ (i := 6) (N := some 60) #[true, true, true, true, true, true, true, true, true, true, true, true, true, true, true, true, true, false, false, false] rfl rfl (one_of HT_.out (by kernel_rfl)) (by decide) (fun K hK => ?_)
                        refine Kd.R_append_rows_step k33 (w0 := w) w.heap.size (by rfl) (.tmp 54) (.tmp 59) 30 33 (.agg #[(.int .i64 0), (.int .i64 0)]) 16 rfl Try.underlying30 info33 rfl (by decide) (by omega) (.slice Ao42 x12_1.length co42) x12_1 y407 _ _ _ (fun k_ => some k_ ≠ (.slice Ao43 x13_1.length co43 : Value).ownBlock ∧ some k_ ≠ (.slice Ao51 y407.length co51 : Value).ownBlock ∧ some k_ ≠ (v414 : Value).ownBlock ∧ k_ ≠ gb393) (fun _ => False) rfl rfl ?aO ?aR (fun _ _ h => h) (fun _ h => h.elim) ?aF ?aB ?aS ?aL ?_
                        (case aR => repeat (first | exact (Kd.R_reads' HO409.out).2.2 | (with_reducible refine Kd.C_alloc ?_ _) | (with_reducible refine Kd.C_drewN ?_ _) | (with_reducible refine Kd.C_drew ?_)))
                        (case aB => exact (by repeat (first | (with_reducible first | exact HB.out | apply below_alloc | apply pw_below_drewN | apply below_drew1 | refine below_set ?_ GE393.out) | exact HB.out)))
                        (case aF => exact (fun k_ hk => ⟨Kd.fresh' (Kd.R_lt (by (with_reducible repeat (first | apply Kd.R_alloc | apply Kd.R_drewN | apply Kd.R_drew)); exact HO_13.out)) k_ hk, Kd.fresh' (Kd.R_lt (by (with_reducible repeat (first | apply Kd.R_alloc | apply Kd.R_drewN | apply Kd.R_drew)); exact HO409.out)) k_ hk, Kd.fresh' (Kd.R_lt (by (with_reducible repeat (first | apply Kd.R_alloc | apply Kd.R_drewN | apply Kd.R_drew)); exact HO415.out)) k_ hk, Kd.freshB (g := gb393) (o := .cells #[.int .i64 ((rd_T33 t389 x33_1).f0), .int .i64 ((rd_T33 t389 x33_1).f1)] 33 (0, 0)) (by (with_reducible repeat (first | refine blk_drewN ?_ _ | refine blk_drew ?_ | refine blk_alloc ?_ _)); exact BK393.out) k_ hk⟩))
                        (case aO => exact (by (with_reducible repeat (first | apply Kd.R_alloc | apply Kd.R_drewN | apply Kd.R_drew)); exact Kd.R_mono HO_12.out (fun _ hk => ⟨hk.1.1.1, ⟨hk.1.2, ⟨hk.2, hk.1.1.2⟩⟩⟩)))
                        (case aS => exact (below_size (by repeat (first | (with_reducible first | exact HB.out | apply below_alloc | apply pw_below_drewN | apply below_drew1 | refine below_set ?_ GE393.out) | exact HB.out))))
                        (case aL => have := LMc38.out; omega)
                        intro v411 w50 ho hb hg hat
                        rw [← Ny410.out] at ho
                        have n0_ := Aside0.mk (Kd.R_after (ok := (fun k_ => some k_ ≠ (.slice Ao51 y407.length co51 : Value).ownBlock ∧ some k_ ≠ (v414 : Value).ownBlock ∧ k_ ≠ gb393)) (by (with_reducible repeat (first | apply Kd.R_alloc | apply Kd.R_drewN | apply Kd.R_drew)); exact Kd.R_mono HO_13.out (fun _ hk => ⟨⟨hk.1.2, ⟨hk.2, hk.1.1.2⟩⟩, hk.1.1.1⟩)) hg hat)
                        have n1_ := Aside0.mk (Kd.V_afterv (ok := (fun k_ => some k_ ≠ (.slice Ao43 x13_1.length co43 : Value).ownBlock ∧ some k_ ≠ (.slice Ao51 y407.length co51 : Value).ownBlock ∧ some k_ ≠ (v414 : Value).ownBlock ∧ k_ ≠ gb393)) (by (with_reducible repeat (first | apply Kd.V_alloc | apply Kd.V_drewN | apply Kd.V_drew)); exact Kd.V_mono HO_31.out (fun _ hk => ⟨⟨hk.1.1.2.1, ⟨hk.1.2, ⟨hk.2, hk.1.1.2.2⟩⟩⟩, hk.1.1.1⟩)) hg hat)
                        have n2_ := Aside0.mk (blk_grown (g := gb393) (o := .cells #[.int .i64 ((rd_T33 t389 x33_1).f0), .int .i64 ((rd_T33 t389 x33_1).f1)] 33 (0, 0)) (by (with_reducible repeat (first | refine blk_drewN ?_ _ | refine blk_drew ?_ | refine blk_alloc ?_ _)); exact BK393.out) hg (Kd.R_away HO_12.out (fun _ hk => hk.1.1.2)))
                        have n3_ := Aside0.mk (Kd.R_after (ok := (fun k_ => some k_ ≠ (.slice Ao43 x13_1.length co43 : Value).ownBlock ∧ some k_ ≠ (v414 : Value).ownBlock ∧ k_ ≠ gb393)) (by (with_reducible repeat (first | apply Kd.R_alloc | apply Kd.R_drewN | apply Kd.R_drew)); exact Kd.R_mono HO409.out (fun _ hk => ⟨⟨hk.1.1.2, ⟨hk.2, hk.1.2⟩⟩, hk.1.1.1.2⟩)) hg hat)
                        have n4_ := Aside0.mk (Kd.R_after (ok := (fun k_ => some k_ ≠ (.slice Ao43 x13_1.length co43 : Value).ownBlock ∧ some k_ ≠ (.slice Ao51 y407.length co51 : Value).ownBlock ∧ k_ ≠ gb393)) (by (with_reducible repeat (first | apply Kd.R_alloc | apply Kd.R_drewN | apply Kd.R_drew)); exact Kd.R_mono HO415.out (fun _ hk => ⟨⟨hk.1.1.2, ⟨hk.1.2, hk.2⟩⟩, hk.1.1.1.2⟩)) hg hat)
                        have n5_ := Aside0.mk (hb)
                        have n6_ := Aside0.mk (ho)
                        clear HO_13
                        clear HO_31
                        clear BK393
                        clear HO409
                        clear HO415
                        clear HB
                        clear HO_12
                        have HO_13 := n0_
                        have HO_31 := n1_
                        have BK393 := n2_
                        have HO409 := n3_
                        have HO415 := n4_
                        have HB := n5_
                        have HO412 := n6_
                        clear n0_ n1_ n2_ n3_ n4_ n5_ n6_
                        clear ho hb hg hat
                        refine hK.out _ _ ⟨(blk_cell BK393.out 0).trans rfl, (blk_cell BK393.out 1).trans rfl⟩ (fun hHeld => ?_)
                        clear hK K
                        refine norm_ (a' := ?_) ?_ ?_
                        rotate_left
                        · show Act.put _ (some 60) _ = _
                          simp only [Act.put, List.setIfInBounds_toArray, List.set_cons_zero, List.set_cons_succ, i64_w, i32_w]
                          rfl
                        exact norm_ (by simp only [putAll, Act.put, List.setIfInBounds_toArray, List.set_cons_zero, List.set_cons_succ]) (hCont (.slice Ao51 y407.length co51, v411, v414) _ ⟨hHeld, (by (with_reducible repeat (first | apply Kd.R_alloc | apply Kd.R_drewN | apply Kd.R_drew)); exact Kd.R_mono HO409.out (fun _ hk => ⟨hk.2, ⟨hk.1.2.1, ⟨hk.1.1, hk.1.2.2⟩⟩⟩)), (by (with_reducible repeat (first | apply Kd.R_alloc | apply Kd.R_drewN | apply Kd.R_drew)); exact Kd.R_mono HO412.out (fun _ hk => ⟨hk.2.1, ⟨hk.2.2.1, ⟨hk.1, hk.2.2.2⟩⟩⟩)), (by (with_reducible repeat (first | apply Kd.R_alloc | apply Kd.R_drewN | apply Kd.R_drew)); exact Kd.R_mono HO415.out (fun _ hk => ⟨hk.1.2.1, ⟨hk.2, ⟨hk.1.1, hk.1.2.2⟩⟩⟩)), (by (with_reducible repeat (first | apply Kd.R_alloc | apply Kd.R_drewN | apply Kd.R_drew)); exact Kd.R_mono HO_13.out (fun _ hk => ⟨hk.1.1, ⟨hk.2, ⟨hk.1.2.1, hk.1.2.2⟩⟩⟩)), (by (with_reducible repeat (first | apply Kd.V_alloc | apply Kd.V_drewN | apply Kd.V_drew)); exact Kd.V_mono HO_31.out (fun _ hk => ⟨hk.1.2.1, ⟨hk.2, ⟨hk.1.2.2.1, ⟨hk.1.1, hk.1.2.2.2⟩⟩⟩⟩)), (by (with_reducible repeat (first | refine blk_drewN ?_ _ | refine blk_drew ?_ | refine blk_alloc ?_ _)); exact BK393.out), (by repeat (first | (with_reducible first | exact HB.out | apply below_alloc | apply pw_below_drewN | apply below_drew1 | refine below_set ?_ GE393.out) | exact HB.out))⟩)
                    · skip
                      refine Kd.R_lit_step k33 _ 33 ?hg (N := 70) ?hd (xs := ([(⟨wrap64 ((Int.tmod ((rd_T33 t389 x33_1).f0) 1099511627776) + (wrap64 ((wrap64 ((wrap64 (Int.tmod a1 1000)) + 1)) * (wrap64 (Int.tmod a2 1000))))), (rd_T33 t389 x33_1).f1⟩ : S33)] : List (S33))) (inner := [.int .i64 (wrap64 ((Int.tmod ((rd_T33 t389 x33_1).f0) 1099511627776) + (wrap64 ((wrap64 ((wrap64 (Int.tmod a1 1000)) + 1)) * (wrap64 (Int.tmod a2 1000)))))), .int .i64 ((rd_T33 t389 x33_1).f1)]) (ok := fun _ => True) (okp := fun _ => True) ?hr ?hp (fun _ hk => hk) trivial (Below.refl _ _) (Nat.le_refl _) (by simp) ?_; (case hd => rfl); (case hg => rfl); (case hr => first | (go_simp; done) | (go_simp; rfl)); (case hp => exact (Reps.c2 (show Kd.M k33 _ _ _ (⟨wrap64 ((Int.tmod ((rd_T33 t389 x33_1).f0) 1099511627776) + (wrap64 ((wrap64 ((wrap64 (Int.tmod a1 1000)) + 1)) * (wrap64 (Int.tmod a2 1000))))), (rd_T33 t389 x33_1).f1⟩ : S33) [.int .i64 (wrap64 ((Int.tmod ((rd_T33 t389 x33_1).f0) 1099511627776) + (wrap64 ((wrap64 ((wrap64 (Int.tmod a1 1000)) + 1)) * (wrap64 (Int.tmod a2 1000)))))), .int .i64 ((rd_T33 t389 x33_1).f1)] from (k33_mkM _ _ _ (⟨wrap64 ((Int.tmod ((rd_T33 t389 x33_1).f0) 1099511627776) + (wrap64 ((wrap64 ((wrap64 (Int.tmod a1 1000)) + 1)) * (wrap64 (Int.tmod a2 1000))))), (rd_T33 t389 x33_1).f1⟩ : S33) )) (Reps.none _ _)))
                      intro v414 w46 ho47 hb hg_ hnew_
                      clear hg_ hnew_
                      (first | rw [← Ny413.out] at ho47 | (simp only [Int.reduceToNat] at ho47; rw [← Ny413.out] at ho47))
                      have n0_ := Aside0.mk (Kd.R_elder' (by (with_reducible repeat (first | apply Kd.R_alloc | apply Kd.R_drewN | apply Kd.R_drew)); exact HO_12.out) (Kd.R_base ho47) hb)
                      have n1_ := Aside0.mk (Kd.R_elder' (by (with_reducible repeat (first | apply Kd.R_alloc | apply Kd.R_drewN | apply Kd.R_drew)); exact HO_13.out) (Kd.R_base ho47) hb)
                      have n2_ := Aside0.mk (Kd.V_elder' (by (with_reducible repeat (first | apply Kd.V_alloc | apply Kd.V_drewN | apply Kd.V_drew)); exact HO_31.out) (Kd.R_base ho47) hb)
                      have n3_ := Aside0.mk (Kd.R_lower (Kd.R_newB (Kd.R_new' (Kd.R_new' ho47 (Kd.R_lt (by (with_reducible repeat (first | apply Kd.R_alloc | apply Kd.R_drewN | apply Kd.R_drew)); exact HO_12.out))) (Kd.R_lt (by (with_reducible repeat (first | apply Kd.R_alloc | apply Kd.R_drewN | apply Kd.R_drew)); exact HO_13.out))) (g := gb393) (o := .cells #[.int .i64 ((rd_T33 t389 x33_1).f0), .int .i64 ((rd_T33 t389 x33_1).f1)] 33 (0, 0)) (by (with_reducible repeat (first | refine blk_drewN ?_ _ | refine blk_drew ?_ | refine blk_alloc ?_ _)); exact BK393.out)) (below_size (by repeat (first | (with_reducible first | exact HB.out | apply below_alloc | apply pw_below_drewN | apply below_drew1 | refine below_set ?_ GE393.out) | exact HB.out))))
                      have n4_ := Aside0.mk (blk_below (g := gb393) (o := .cells #[.int .i64 ((rd_T33 t389 x33_1).f0), .int .i64 ((rd_T33 t389 x33_1).f1)] 33 (0, 0)) (by (with_reducible repeat (first | refine blk_drewN ?_ _ | refine blk_drew ?_ | refine blk_alloc ?_ _)); exact BK393.out) hb)
                      have n5_ := Aside0.mk (below_step (by repeat (first | (with_reducible first | exact HB.out | apply below_alloc | apply pw_below_drewN | apply below_drew1 | refine below_set ?_ GE393.out) | exact HB.out)) hb)
                      clear HO_12
                      clear HO_13
                      clear HO_31
                      clear BK393
                      clear HB
                      have HO_12 := n0_
                      have HO_13 := n1_
                      have HO_31 := n2_
                      have HO415 := n3_
                      have BK393 := n4_
                      have HB := n5_
                      clear n0_ n1_ n2_ n3_ n4_ n5_
                      clear hb ho47
                      refine hK.out _ _ ⟨(blk_cell BK393.out 0).trans rfl, (blk_cell BK393.out 1).trans rfl⟩ (fun hHeld => ?_)
                      clear hK K
                      refine norm_ (a' := ?_) ?_ ?_
                      rotate_left
                      · show Act.put _ (some 70) _ = _
                        simp only [Act.put, List.setIfInBounds_toArray, List.set_cons_zero, List.set_cons_succ, i64_w, i32_w]
                        rfl
                      refine one_ (i := 5) (N := some 59) #[true, true, true, true, true, true, false, true, true, true, true, true, true, true, true, true, true, false, false, false] rfl rfl (one_of HT_.out (by kernel_rfl)) (by decide) (fun K hK => ?_)
                      refine Kd.R_lit_step k33 _ 33 ?hg (N := 59) ?hd (xs := ([(⟨Int.tmod ((rd_T33 t389 x33_1).f0) 1099511627776, (rd_T33 t389 x33_1).f1⟩ : S33)] : List (S33))) (inner := [.int .i64 (Int.tmod ((rd_T33 t389 x33_1).f0) 1099511627776), .int .i64 ((rd_T33 t389 x33_1).f1)]) (ok := fun _ => True) (okp := fun _ => True) ?hr ?hp (fun _ hk => hk) trivial (Below.refl _ _) (Nat.le_refl _) (by simp) ?_; (case hd => rfl); (case hg => rfl); (case hr => first | (go_simp; done) | (go_simp; rfl)); (case hp => exact (Reps.c2 (show Kd.M k33 _ _ _ (⟨Int.tmod ((rd_T33 t389 x33_1).f0) 1099511627776, (rd_T33 t389 x33_1).f1⟩ : S33) [.int .i64 (Int.tmod ((rd_T33 t389 x33_1).f0) 1099511627776), .int .i64 ((rd_T33 t389 x33_1).f1)] from (k33_mkM _ _ _ (⟨Int.tmod ((rd_T33 t389 x33_1).f0) 1099511627776, (rd_T33 t389 x33_1).f1⟩ : S33) )) (Reps.none _ _)))
                      intro v408 w48 ho49 hb hg_ hnew_
                      clear hg_ hnew_
                      (first | rw [← Ny407.out] at ho49 | (simp only [Int.reduceToNat] at ho49; rw [← Ny407.out] at ho49))
                      have n0_ := Aside0.mk (Kd.R_elder' (by (with_reducible repeat (first | apply Kd.R_alloc | apply Kd.R_drewN | apply Kd.R_drew)); exact HO_12.out) (Kd.R_base ho49) hb)
                      have n1_ := Aside0.mk (Kd.R_elder' (by (with_reducible repeat (first | apply Kd.R_alloc | apply Kd.R_drewN | apply Kd.R_drew)); exact HO_13.out) (Kd.R_base ho49) hb)
                      have n2_ := Aside0.mk (Kd.V_elder' (by (with_reducible repeat (first | apply Kd.V_alloc | apply Kd.V_drewN | apply Kd.V_drew)); exact HO_31.out) (Kd.R_base ho49) hb)
                      have n3_ := Aside0.mk (Kd.R_elder' (by (with_reducible repeat (first | apply Kd.R_alloc | apply Kd.R_drewN | apply Kd.R_drew)); exact HO415.out) (Kd.R_base ho49) hb)
                      have n4_ := Aside0.mk (Kd.R_lower (Kd.R_newB (Kd.R_new' (Kd.R_new' (Kd.R_new' ho49 (Kd.R_lt (by (with_reducible repeat (first | apply Kd.R_alloc | apply Kd.R_drewN | apply Kd.R_drew)); exact HO_12.out))) (Kd.R_lt (by (with_reducible repeat (first | apply Kd.R_alloc | apply Kd.R_drewN | apply Kd.R_drew)); exact HO_13.out))) (Kd.R_lt (by (with_reducible repeat (first | apply Kd.R_alloc | apply Kd.R_drewN | apply Kd.R_drew)); exact HO415.out))) (g := gb393) (o := .cells #[.int .i64 ((rd_T33 t389 x33_1).f0), .int .i64 ((rd_T33 t389 x33_1).f1)] 33 (0, 0)) (by (with_reducible repeat (first | refine blk_drewN ?_ _ | refine blk_drew ?_ | refine blk_alloc ?_ _)); exact BK393.out)) (below_size (by repeat (first | (with_reducible first | exact HB.out | apply below_alloc | apply pw_below_drewN | apply below_drew1 | refine below_set ?_ GE393.out) | exact HB.out))))
                      have n5_ := Aside0.mk (blk_below (g := gb393) (o := .cells #[.int .i64 ((rd_T33 t389 x33_1).f0), .int .i64 ((rd_T33 t389 x33_1).f1)] 33 (0, 0)) (by (with_reducible repeat (first | refine blk_drewN ?_ _ | refine blk_drew ?_ | refine blk_alloc ?_ _)); exact BK393.out) hb)
                      have n6_ := Aside0.mk (below_step (by repeat (first | (with_reducible first | exact HB.out | apply below_alloc | apply pw_below_drewN | apply below_drew1 | refine below_set ?_ GE393.out) | exact HB.out)) hb)
                      clear HO_12
                      clear HO_13
                      clear HO_31
                      clear HO415
                      clear BK393
                      clear HB
                      have HO_12 := n0_
                      have HO_13 := n1_
                      have HO_31 := n2_
                      have HO415 := n3_
                      have HO409 := n4_
                      have BK393 := n5_
                      have HB := n6_
                      clear n0_ n1_ n2_ n3_ n4_ n5_ n6_
                      clear hb ho49
                      obtain ⟨Ao51, co51, eo51⟩ := Kd.R_slice HO409.out
                      (first | subst eo51 | (injection eo51 with f1_ f2_ f3_; have f4_ := f1_.symm; have f5_ := f3_.symm; clear f1_ f2_ f3_; subst f4_; subst f5_))
                      refine hK.out _ _ ⟨(blk_cell BK393.out 0).trans rfl, (blk_cell BK393.out 1).trans rfl⟩ (fun hHeld => ?_)
                      clear hK K
                      refine norm_ (a' := ?_) ?_ ?_
                      rotate_left
                      · show Act.put _ (some 59) _ = _
                        simp only [Act.put, List.setIfInBounds_toArray, List.set_cons_zero, List.set_cons_succ, i64_w, i32_w]
                        rfl
                      refine one_ (i := 6) (N := some 60) #[true, true, true, true, true, true, true, true, true, true, true, true, true, true, true, true, true, false, false, false] rfl rfl (one_of HT_.out (by kernel_rfl)) (by decide) (fun K hK => ?_)
                      refine Kd.R_append_rows_step k33 (w0 := w) w.heap.size (by rfl) (.tmp 54) (.tmp 59) 30 33 (.agg #[(.int .i64 0), (.int .i64 0)]) 16 rfl Try.underlying30 info33 rfl (by decide) (by omega) (.slice Ao42 x12_1.length co42) x12_1 y407 _ _ _ (fun k_ => some k_ ≠ (.slice Ao43 x13_1.length co43 : Value).ownBlock ∧ some k_ ≠ (v414 : Value).ownBlock ∧ some k_ ≠ (.slice Ao51 y407.length co51 : Value).ownBlock ∧ k_ ≠ gb393) (fun _ => False) rfl rfl ?aO ?aR (fun _ _ h => h) (fun _ h => h.elim) ?aF ?aB ?aS ?aL ?_
                      (case aR => repeat (first | exact (Kd.R_reads' HO409.out).2.2 | (with_reducible refine Kd.C_alloc ?_ _) | (with_reducible refine Kd.C_drewN ?_ _) | (with_reducible refine Kd.C_drew ?_)))
                      (case aB => exact (by repeat (first | (with_reducible first | exact HB.out | apply below_alloc | apply pw_below_drewN | apply below_drew1 | refine below_set ?_ GE393.out) | exact HB.out)))
                      (case aF => exact (fun k_ hk => ⟨Kd.fresh' (Kd.R_lt (by (with_reducible repeat (first | apply Kd.R_alloc | apply Kd.R_drewN | apply Kd.R_drew)); exact HO_13.out)) k_ hk, Kd.fresh' (Kd.R_lt (by (with_reducible repeat (first | apply Kd.R_alloc | apply Kd.R_drewN | apply Kd.R_drew)); exact HO415.out)) k_ hk, Kd.fresh' (Kd.R_lt (by (with_reducible repeat (first | apply Kd.R_alloc | apply Kd.R_drewN | apply Kd.R_drew)); exact HO409.out)) k_ hk, Kd.freshB (g := gb393) (o := .cells #[.int .i64 ((rd_T33 t389 x33_1).f0), .int .i64 ((rd_T33 t389 x33_1).f1)] 33 (0, 0)) (by (with_reducible repeat (first | refine blk_drewN ?_ _ | refine blk_drew ?_ | refine blk_alloc ?_ _)); exact BK393.out) k_ hk⟩))
                      (case aO => exact (by (with_reducible repeat (first | apply Kd.R_alloc | apply Kd.R_drewN | apply Kd.R_drew)); exact Kd.R_mono HO_12.out (fun _ hk => ⟨hk.1.1.1, ⟨hk.1.2, ⟨hk.2, hk.1.1.2⟩⟩⟩)))
                      (case aS => exact (below_size (by repeat (first | (with_reducible first | exact HB.out | apply below_alloc | apply pw_below_drewN | apply below_drew1 | refine below_set ?_ GE393.out) | exact HB.out))))
                      (case aL => have := LMc38.out; omega)
                      intro v411 w50 ho hb hg hat
                      rw [← Ny410.out] at ho
                      have n0_ := Aside0.mk (Kd.R_after (ok := (fun k_ => some k_ ≠ (v414 : Value).ownBlock ∧ some k_ ≠ (.slice Ao51 y407.length co51 : Value).ownBlock ∧ k_ ≠ gb393)) (by (with_reducible repeat (first | apply Kd.R_alloc | apply Kd.R_drewN | apply Kd.R_drew)); exact Kd.R_mono HO_13.out (fun _ hk => ⟨⟨hk.1.2, ⟨hk.2, hk.1.1.2⟩⟩, hk.1.1.1⟩)) hg hat)
                      have n1_ := Aside0.mk (Kd.V_afterv (ok := (fun k_ => some k_ ≠ (.slice Ao43 x13_1.length co43 : Value).ownBlock ∧ some k_ ≠ (v414 : Value).ownBlock ∧ some k_ ≠ (.slice Ao51 y407.length co51 : Value).ownBlock ∧ k_ ≠ gb393)) (by (with_reducible repeat (first | apply Kd.V_alloc | apply Kd.V_drewN | apply Kd.V_drew)); exact Kd.V_mono HO_31.out (fun _ hk => ⟨⟨hk.1.1.2.1, ⟨hk.1.2, ⟨hk.2, hk.1.1.2.2⟩⟩⟩, hk.1.1.1⟩)) hg hat)
                      have n2_ := Aside0.mk (blk_grown (g := gb393) (o := .cells #[.int .i64 ((rd_T33 t389 x33_1).f0), .int .i64 ((rd_T33 t389 x33_1).f1)] 33 (0, 0)) (by (with_reducible repeat (first | refine blk_drewN ?_ _ | refine blk_drew ?_ | refine blk_alloc ?_ _)); exact BK393.out) hg (Kd.R_away HO_12.out (fun _ hk => hk.1.1.2)))
                      have n3_ := Aside0.mk (Kd.R_after (ok := (fun k_ => some k_ ≠ (.slice Ao43 x13_1.length co43 : Value).ownBlock ∧ some k_ ≠ (.slice Ao51 y407.length co51 : Value).ownBlock ∧ k_ ≠ gb393)) (by (with_reducible repeat (first | apply Kd.R_alloc | apply Kd.R_drewN | apply Kd.R_drew)); exact Kd.R_mono HO415.out (fun _ hk => ⟨⟨hk.1.1.2, ⟨hk.2, hk.1.2⟩⟩, hk.1.1.1.2⟩)) hg hat)
                      have n4_ := Aside0.mk (Kd.R_after (ok := (fun k_ => some k_ ≠ (.slice Ao43 x13_1.length co43 : Value).ownBlock ∧ some k_ ≠ (v414 : Value).ownBlock ∧ k_ ≠ gb393)) (by (with_reducible repeat (first | apply Kd.R_alloc | apply Kd.R_drewN | apply Kd.R_drew)); exact Kd.R_mono HO409.out (fun _ hk => ⟨⟨hk.1.1.2, ⟨hk.1.2, hk.2⟩⟩, hk.1.1.1.2⟩)) hg hat)
                      have n5_ := Aside0.mk (hb)
                      have n6_ := Aside0.mk (ho)
                      clear HO_13
                      clear HO_31
                      clear BK393
                      clear HO415
                      clear HO409
                      clear HB
                      clear HO_12
                      have HO_13 := n0_
                      have HO_31 := n1_
                      have BK393 := n2_
                      have HO415 := n3_
                      have HO409 := n4_
                      have HB := n5_
                      have HO412 := n6_
                      clear n0_ n1_ n2_ n3_ n4_ n5_ n6_
                      clear ho hb hg hat
                      refine hK.out _ _ ⟨(blk_cell BK393.out 0).trans rfl, (blk_cell BK393.out 1).trans rfl⟩ (fun hHeld => ?_)
                      clear hK K
                      refine norm_ (a' := ?_) ?_ ?_
                      rotate_left
                      · show Act.put _ (some 60) _ = _
                        simp only [Act.put, List.setIfInBounds_toArray, List.set_cons_zero, List.set_cons_succ, i64_w, i32_w]
                        rfl
                      exact norm_ (by simp only [putAll, Act.put, List.setIfInBounds_toArray, List.set_cons_zero, List.set_cons_succ]) (hCont (.slice Ao51 y407.length co51, v411, v414) _ ⟨hHeld, (by (with_reducible repeat (first | apply Kd.R_alloc | apply Kd.R_drewN | apply Kd.R_drew)); exact Kd.R_mono HO409.out (fun _ hk => ⟨hk.2, ⟨hk.1.2.1, ⟨hk.1.1, hk.1.2.2⟩⟩⟩)), (by (with_reducible repeat (first | apply Kd.R_alloc | apply Kd.R_drewN | apply Kd.R_drew)); exact Kd.R_mono HO412.out (fun _ hk => ⟨hk.2.2.1, ⟨hk.2.1, ⟨hk.1, hk.2.2.2⟩⟩⟩)), (by (with_reducible repeat (first | apply Kd.R_alloc | apply Kd.R_drewN | apply Kd.R_drew)); exact Kd.R_mono HO415.out (fun _ hk => ⟨hk.1.2.1, ⟨hk.2, ⟨hk.1.1, hk.1.2.2⟩⟩⟩)), (by (with_reducible repeat (first | apply Kd.R_alloc | apply Kd.R_drewN | apply Kd.R_drew)); exact Kd.R_mono HO_13.out (fun _ hk => ⟨hk.1.2.1, ⟨hk.2, ⟨hk.1.1, hk.1.2.2⟩⟩⟩)), (by (with_reducible repeat (first | apply Kd.V_alloc | apply Kd.V_drewN | apply Kd.V_drew)); exact Kd.V_mono HO_31.out (fun _ hk => ⟨hk.1.2.2.1, ⟨hk.2, ⟨hk.1.2.1, ⟨hk.1.1, hk.1.2.2.2⟩⟩⟩⟩)), (by (with_reducible repeat (first | refine blk_drewN ?_ _ | refine blk_drew ?_ | refine blk_alloc ?_ _)); exact BK393.out), (by repeat (first | (with_reducible first | exact HB.out | apply below_alloc | apply pw_below_drewN | apply below_drew1 | refine below_set ?_ GE393.out) | exact HB.out))⟩)
                  rintro ⟨v408, v411, v414⟩ w52 ⟨hS_, h0_, h1_, h2_, h3_, h4_, h5_, h6_⟩
                  have n0_ : Aside0 (Kd.R k33 33 w52 w.heap.size (fun k_ => some k_ ≠ (v411 : Value).ownBlock ∧ some k_ ≠ (v414 : Value).ownBlock ∧ some k_ ≠ (.slice Ao43 x13_1.length co43 : Value).ownBlock ∧ k_ ≠ gb393) v408 y407) := ⟨h0_⟩
                  have n1_ : Aside0 (Kd.R k33 33 w52 w.heap.size (fun k_ => some k_ ≠ (v408 : Value).ownBlock ∧ some k_ ≠ (v414 : Value).ownBlock ∧ some k_ ≠ (.slice Ao43 x13_1.length co43 : Value).ownBlock ∧ k_ ≠ gb393) v411 y410) := ⟨h1_⟩
                  have n2_ : Aside0 (Kd.R k33 33 w52 w.heap.size (fun k_ => some k_ ≠ (v408 : Value).ownBlock ∧ some k_ ≠ (v411 : Value).ownBlock ∧ some k_ ≠ (.slice Ao43 x13_1.length co43 : Value).ownBlock ∧ k_ ≠ gb393) v414 y413) := ⟨h2_⟩
                  have n3_ : Aside0 (Kd.R k33 33 w52 w.heap.size (fun k_ => some k_ ≠ (v408 : Value).ownBlock ∧ some k_ ≠ (v411 : Value).ownBlock ∧ some k_ ≠ (v414 : Value).ownBlock ∧ k_ ≠ gb393) (.slice Ao43 x13_1.length co43) x13_1) := ⟨h3_⟩
                  have n4_ : Aside0 (Kd.V k33 33 w52 w.heap.size (fun k_ => some k_ ≠ (v408 : Value).ownBlock ∧ some k_ ≠ (v411 : Value).ownBlock ∧ some k_ ≠ (v414 : Value).ownBlock ∧ some k_ ≠ (.slice Ao43 x13_1.length co43 : Value).ownBlock ∧ k_ ≠ gb393) (.slice (some ad392) t389.length co9) t389) := ⟨h4_⟩
                  have n5_ : Aside0 (w52.heap[gb393]? = some (.cells #[.int .i64 ((rd_T33 t389 x33_1).f0), .int .i64 ((rd_T33 t389 x33_1).f1)] 33 (0, 0))) := ⟨h5_⟩
                  have n6_ : Aside0 (Below w.heap.size w w52) := ⟨h6_⟩
                  clear HO_12
                  clear HO_13
                  clear HO_31
                  clear BK393
                  clear HB
                  clear h0_ h1_ h2_ h3_ h4_ h5_ h6_
                  have HO409 := n0_
                  have HO412 := n1_
                  have HO415 := n2_
                  have HO_13 := n3_
                  have HO_31 := n4_
                  have BK393 := n5_
                  have HB := n6_
                  clear n0_ n1_ n2_ n3_ n4_ n5_ n6_
                  have hHeld : w52.cell? ⟨gb393, 0, none⟩ = some (.int .i64 ((rd_T33 t389 x33_1).f0)) ∧ w52.cell? ⟨gb393, 1, none⟩ = some (.int .i64 ((rd_T33 t389 x33_1).f1)) := hS_
                  obtain ⟨Ao54, co54, eo54⟩ := Kd.R_slice HO415.out
                  (first | subst eo54 | (injection eo54 with f1_ f2_ f3_; have f4_ := f1_.symm; have f5_ := f3_.symm; clear f1_ f2_ f3_; subst f4_; subst f5_))
                  refine norm_ (a' := ?_) ?_ ?_
                  rotate_left
                  · simp only [putAll, Act.put, List.setIfInBounds_toArray, List.set_cons_zero, List.set_cons_succ]
                    rfl
                  refine one_ (i := 17) (N := some 71) #[true, true, true, true, true, true, true, true, true, true, true, true, true, true, true, true, true, true, false, false] rfl rfl (one_of HT_.out (by kernel_rfl)) (by decide) (fun K hK => ?_)
                  refine Kd.R_append_rows_step k33 (w0 := w) w.heap.size (by rfl) (.tmp 61) (.tmp 70) 30 33 (.agg #[(.int .i64 0), (.int .i64 0)]) 16 rfl Try.underlying30 info33 rfl (by decide) (by omega) (.slice Ao43 x13_1.length co43) x13_1 y413 _ _ _ (fun k_ => some k_ ≠ (v408 : Value).ownBlock ∧ some k_ ≠ (v411 : Value).ownBlock ∧ some k_ ≠ (.slice Ao54 y413.length co54 : Value).ownBlock ∧ k_ ≠ gb393) (fun _ => False) rfl rfl ?aO ?aR (fun _ _ h => h) (fun _ h => h.elim) ?aF ?aB ?aS ?aL ?_
                  (case aR => repeat (first | exact (Kd.R_reads' HO415.out).2.2 | (with_reducible refine Kd.C_alloc ?_ _) | (with_reducible refine Kd.C_drewN ?_ _) | (with_reducible refine Kd.C_drew ?_)))
                  (case aB => exact (by repeat (first | (with_reducible first | exact HB.out | apply below_alloc | apply pw_below_drewN | apply below_drew1 | refine below_set ?_ GE393.out) | exact HB.out)))
                  (case aF => exact (fun k_ hk => ⟨Kd.fresh' (Kd.R_lt (by (with_reducible repeat (first | apply Kd.R_alloc | apply Kd.R_drewN | apply Kd.R_drew)); exact HO409.out)) k_ hk, Kd.fresh' (Kd.R_lt (by (with_reducible repeat (first | apply Kd.R_alloc | apply Kd.R_drewN | apply Kd.R_drew)); exact HO412.out)) k_ hk, Kd.fresh' (Kd.R_lt (by (with_reducible repeat (first | apply Kd.R_alloc | apply Kd.R_drewN | apply Kd.R_drew)); exact HO415.out)) k_ hk, Kd.freshB (g := gb393) (o := .cells #[.int .i64 ((rd_T33 t389 x33_1).f0), .int .i64 ((rd_T33 t389 x33_1).f1)] 33 (0, 0)) (by (with_reducible repeat (first | refine blk_drewN ?_ _ | refine blk_drew ?_ | refine blk_alloc ?_ _)); exact BK393.out) k_ hk⟩))
                  (case aO => exact (by (with_reducible repeat (first | apply Kd.R_alloc | apply Kd.R_drewN | apply Kd.R_drew)); exact HO_13.out))
                  (case aS => exact (below_size (by repeat (first | (with_reducible first | exact HB.out | apply below_alloc | apply pw_below_drewN | apply below_drew1 | refine below_set ?_ GE393.out) | exact HB.out))))
                  (case aL => have := LMc39.out; omega)
                  intro v417 w53 ho hb hg hat
                  rw [← Ny416.out] at ho
                  have n0_ := Aside0.mk (Kd.V_afterv (ok := (fun k_ => some k_ ≠ (v408 : Value).ownBlock ∧ some k_ ≠ (v411 : Value).ownBlock ∧ some k_ ≠ (.slice Ao54 y413.length co54 : Value).ownBlock ∧ k_ ≠ gb393)) (by (with_reducible repeat (first | apply Kd.V_alloc | apply Kd.V_drewN | apply Kd.V_drew)); exact Kd.V_mono HO_31.out (fun _ hk => ⟨⟨hk.1, ⟨hk.2.1, ⟨hk.2.2.1, hk.2.2.2.2⟩⟩⟩, hk.2.2.2.1⟩)) hg hat)
                  have n1_ := Aside0.mk (blk_grown (g := gb393) (o := .cells #[.int .i64 ((rd_T33 t389 x33_1).f0), .int .i64 ((rd_T33 t389 x33_1).f1)] 33 (0, 0)) (by (with_reducible repeat (first | refine blk_drewN ?_ _ | refine blk_drew ?_ | refine blk_alloc ?_ _)); exact BK393.out) hg (Kd.R_away HO_13.out (fun _ hk => hk.2.2.2)))
                  have n2_ := Aside0.mk (Kd.R_after (ok := (fun k_ => some k_ ≠ (v411 : Value).ownBlock ∧ some k_ ≠ (.slice Ao54 y413.length co54 : Value).ownBlock ∧ k_ ≠ gb393)) (by (with_reducible repeat (first | apply Kd.R_alloc | apply Kd.R_drewN | apply Kd.R_drew)); exact Kd.R_mono HO409.out (fun _ hk => ⟨⟨hk.1, ⟨hk.2.1, hk.2.2.2⟩⟩, hk.2.2.1⟩)) hg hat)
                  have n3_ := Aside0.mk (Kd.R_after (ok := (fun k_ => some k_ ≠ (v408 : Value).ownBlock ∧ some k_ ≠ (.slice Ao54 y413.length co54 : Value).ownBlock ∧ k_ ≠ gb393)) (by (with_reducible repeat (first | apply Kd.R_alloc | apply Kd.R_drewN | apply Kd.R_drew)); exact Kd.R_mono HO412.out (fun _ hk => ⟨⟨hk.1, ⟨hk.2.1, hk.2.2.2⟩⟩, hk.2.2.1⟩)) hg hat)
                  have n4_ := Aside0.mk (Kd.R_after (ok := (fun k_ => some k_ ≠ (v408 : Value).ownBlock ∧ some k_ ≠ (v411 : Value).ownBlock ∧ k_ ≠ gb393)) (by (with_reducible repeat (first | apply Kd.R_alloc | apply Kd.R_drewN | apply Kd.R_drew)); exact Kd.R_mono HO415.out (fun _ hk => ⟨⟨hk.1, ⟨hk.2.1, hk.2.2.2⟩⟩, hk.2.2.1⟩)) hg hat)
                  have n5_ := Aside0.mk (hb)
                  have n6_ := Aside0.mk (ho)
                  clear HO_31
                  clear BK393
                  clear HO409
                  clear HO412
                  clear HO415
                  clear HB
                  clear HO_13
                  have HO_31 := n0_
                  have BK393 := n1_
                  have HO409 := n2_
                  have HO412 := n3_
                  have HO415 := n4_
                  have HB := n5_
                  have HO418 := n6_
                  clear n0_ n1_ n2_ n3_ n4_ n5_ n6_
                  clear ho hb hg hat
                  refine hK.out _ _ ⟨(blk_cell BK393.out 0).trans rfl, (blk_cell BK393.out 1).trans rfl⟩ (fun hHeld => ?_)
                  clear hK K
                  refine norm_ (a' := ?_) ?_ ?_
                  rotate_left
                  · show Act.put _ (some 71) _ = _
                    simp only [Act.put, List.setIfInBounds_toArray, List.set_cons_zero, List.set_cons_succ, i64_w, i32_w]
                    rfl
                  refine pure_ (i := 18) (N := some 12) (v := ?_) (a' := ?_) #[true, true, true, true, true, true, true, true, true, true, true, true, true, true, true, true, true, true, true, false] rfl rfl (any_of HT_.out (by kernel_rfl)) (fun _ _ _ h => h) (Or.inl ⟨by rfl, ?_⟩) ?_ ?_
                  rotate_left
                  · intro w'
                    go_simp
                    with_reducible rfl
                  rotate_left
                  · simp only [Act.put, List.setIfInBounds_toArray, List.set_cons_zero, List.set_cons_succ, i64_w, i32_w]
                    rfl
                  refine pure_ (i := 19) (N := some 13) (v := ?_) (a' := ?_) #[true, true, true, true, true, true, true, true, true, true, true, true, true, true, true, true, true, true, true, true] rfl rfl (any_of HT_.out (by kernel_rfl)) (fun _ _ _ h => h) (Or.inl ⟨by rfl, ?_⟩) ?_ ?_
                  rotate_left
                  · intro w'
                    go_simp
                    with_reducible rfl
                  rotate_left
                  · simp only [Act.put, List.setIfInBounds_toArray, List.set_cons_zero, List.set_cons_succ, i64_w, i32_w]
                    rfl
                  refine done_ (done_of HT_.out (by kernel_rfl)) ?_
                  try go_wp2
                  go_roundg k1
                  case measure => have := HK1.out; omega
                  case rel => exact ⟨(y410), (y416), (wrap64 (x33_1 + 1)), (by first | rfl | (simp; done) | (simp [*]; done) | (simp <;> grind)), H', ⟨by have := HK1.out; omega⟩, ⟨by (with_reducible repeat (first | apply Kd.R_alloc | apply Kd.R_drewN | apply Kd.R_drew)); exact Kd.R_mono HO412.out (fun _ hk => hk.2)⟩, ⟨by (with_reducible repeat (first | apply Kd.R_alloc | apply Kd.R_drewN | apply Kd.R_drew)); exact Kd.R_mono HO418.out (fun _ hk => hk.2.1)⟩, ⟨by (with_reducible repeat (first | apply Kd.V_alloc | apply Kd.V_drewN | apply Kd.V_drew)); exact Kd.V_mono HO_31.out (fun _ hk => ⟨hk.1.2.1, hk.2⟩)⟩, ⟨by repeat (first | (with_reducible first | exact HB.out | apply below_alloc | apply pw_below_drewN | apply below_drew1 | refine below_set ?_ GE393.out) | exact HB.out)⟩⟩
                · rw [if_neg c39] at H
                  exact absurd H (by simp)
              · rw [if_neg c38] at H
                exact absurd H (by simp)
          · rw [if_neg c12] at H
            exact absurd H (by simp)
        · rw [if_neg c11] at H
          exact absurd H (by simp)
      · rw [if_neg c10] at H
        have c10b0 : decide (x33_1 < (t389.length : Int)) = false := decide_eq_false c10
        clear c10
        replace H := Option.bind_eq_some_iff.mp H
        obtain ⟨⟨t419, t420⟩, A550, H⟩ := H
        replace H : ((agg_Rollup.f k1 x13_1 (wrap64 ((wrap64 (Int.tmod a1 1000)) + 1)) (Int.tmod a3 6)).bind fun bt423 => (if t420 = 0 then (if bt423.2 = 0 then (marigraphlaw12_AggShift.j1 k1 t388 (wrap64 ((wrap64 (Int.tmod a1 1000)) + 1)) (wrap64 (Int.tmod a2 1000)) t419 bt423.1 ((t419.length : Int) != (bt423.1.length : Int))) else (marigraphlaw12_AggShift.j1 k1 t388 (wrap64 ((wrap64 (Int.tmod a1 1000)) + 1)) (wrap64 (Int.tmod a2 1000)) t419 bt423.1 true)) else (marigraphlaw12_AggShift.j1 k1 t388 (wrap64 ((wrap64 (Int.tmod a1 1000)) + 1)) (wrap64 (Int.tmod a2 1000)) t419 bt423.1 true))) = some r := H
        have A55 := Aside0.mk A550
        clear A550
        replace H := Option.bind_eq_some_iff.mp H
        obtain ⟨⟨t423, t424⟩, A560, H⟩ := H
        replace H : (if t420 = 0 then (if t424 = 0 then (marigraphlaw12_AggShift.j1 k1 t388 (wrap64 ((wrap64 (Int.tmod a1 1000)) + 1)) (wrap64 (Int.tmod a2 1000)) t419 t423 ((t419.length : Int) != (t423.length : Int))) else (marigraphlaw12_AggShift.j1 k1 t388 (wrap64 ((wrap64 (Int.tmod a1 1000)) + 1)) (wrap64 (Int.tmod a2 1000)) t419 t423 true)) else (marigraphlaw12_AggShift.j1 k1 t388 (wrap64 ((wrap64 (Int.tmod a1 1000)) + 1)) (wrap64 (Int.tmod a2 1000)) t419 t423 true)) = some r := H
        have A56 := Aside0.mk A560
        clear A560
        have HC57 := Aside0.mk H
        clear H
        obtain ⟨Ao58, co58, eo58⟩ := Kd.R_slice HO_12.out
        subst eo58
        go_upto_region 13 with (first | ((with_reducible refine gate_callee (f := 34) rfl ?_); refine goesL_ (some 78) rfl rfl Try.func34 (by kernel_rfl) rfl #[.slice Ao58 x12_1.length co58, .int .i64 (wrap64 ((wrap64 (Int.tmod a1 1000)) + 1)), .int .u8 (Int.tmod a3 6)] rfl (by (try simp only [List.map_toArray, List.map_cons, List.map_nil]); first | done | rfl | (simp only [List.length_drop, List.length_take]; rfl)) ?_; (with_reducible refine (agg_Rollup.calls k1 _ _ x12_1 (wrap64 ((wrap64 (Int.tmod a1 1000)) + 1)) (Int.tmod a3 6) t419 t420 _ ?side1 ?side2 A55.out).mono ?_); (case side1 => repeat (first | exact (Kd.R_reads' HO_12.out).2.2 | (with_reducible refine Kd.C_alloc ?_ _) | (with_reducible refine Kd.C_drewN ?_ _) | (with_reducible refine Kd.C_drew ?_))); (case side2 => exact (Kd.R_reads' HO_12.out).2.1); rintro e w59 ⟨v421, rfl, ho0, hb⟩; refine ⟨_, rfl, ?_⟩; have n0_ := Aside0.mk (Kd.R_elder' (by (with_reducible repeat (first | apply Kd.R_alloc | apply Kd.R_drewN | apply Kd.R_drew)); exact HO_12.out) (Kd.R_base ho0) hb); have n1_ := Aside0.mk (Kd.R_elder' (by (with_reducible repeat (first | apply Kd.R_alloc | apply Kd.R_drewN | apply Kd.R_drew)); exact HO_13.out) (Kd.R_base ho0) hb); have n2_ := Aside0.mk (Kd.V_elder' (by (with_reducible repeat (first | apply Kd.V_alloc | apply Kd.V_drewN | apply Kd.V_drew)); exact HO_31.out) (Kd.R_base ho0) hb); have n3_ := Aside0.mk (Kd.R_lower (Kd.R_new' (Kd.R_new' ho0 (Kd.R_lt (by (with_reducible repeat (first | apply Kd.R_alloc | apply Kd.R_drewN | apply Kd.R_drew)); exact HO_12.out))) (Kd.R_lt (by (with_reducible repeat (first | apply Kd.R_alloc | apply Kd.R_drewN | apply Kd.R_drew)); exact HO_13.out))) (below_size (by repeat (first | (with_reducible first | exact HB.out | apply below_alloc | apply pw_below_drewN | apply below_drew1) | exact HB.out)))); have n4_ := Aside0.mk (below_step (by repeat (first | (with_reducible first | exact HB.out | apply below_alloc | apply pw_below_drewN | apply below_drew1) | exact HB.out)) hb); clear HO_12; clear HO_13; clear HO_31; clear HB; have HO_12 := n0_; have HO_13 := n1_; have HO_31 := n2_; have HO422 := n3_; have HB := n4_; clear n0_ n1_ n2_ n3_ n4_; (try clear hb); (try clear hb2); (try clear hk); (try clear hi); (try clear ho0); obtain ⟨Ao60, co60, eo60⟩ := Kd.R_slice HO_13.out; subst eo60) | ((with_reducible refine gate_callee (f := 34) rfl ?_); refine goesL_ (some 86) rfl rfl Try.func34 (by kernel_rfl) rfl #[.slice Ao60 x13_1.length co60, .int .i64 (wrap64 ((wrap64 (Int.tmod a1 1000)) + 1)), .int .u8 (Int.tmod a3 6)] rfl (by (try simp only [List.map_toArray, List.map_cons, List.map_nil]); first | done | rfl | (simp only [List.length_drop, List.length_take]; rfl)) ?_; (with_reducible refine (agg_Rollup.calls k1 _ _ x13_1 (wrap64 ((wrap64 (Int.tmod a1 1000)) + 1)) (Int.tmod a3 6) t423 t424 _ ?side1 ?side2 A56.out).mono ?_); (case side1 => repeat (first | exact (Kd.R_reads' HO_13.out).2.2 | (with_reducible refine Kd.C_alloc ?_ _) | (with_reducible refine Kd.C_drewN ?_ _) | (with_reducible refine Kd.C_drew ?_))); (case side2 => exact (Kd.R_reads' HO_13.out).2.1); rintro e w61 ⟨v425, rfl, ho0, hb⟩; refine ⟨_, rfl, ?_⟩; have n0_ := Aside0.mk (Kd.R_elder' (by (with_reducible repeat (first | apply Kd.R_alloc | apply Kd.R_drewN | apply Kd.R_drew)); exact HO_12.out) (Kd.R_base ho0) hb); have n1_ := Aside0.mk (Kd.R_elder' (by (with_reducible repeat (first | apply Kd.R_alloc | apply Kd.R_drewN | apply Kd.R_drew)); exact HO_13.out) (Kd.R_base ho0) hb); have n2_ := Aside0.mk (Kd.V_elder' (by (with_reducible repeat (first | apply Kd.V_alloc | apply Kd.V_drewN | apply Kd.V_drew)); exact HO_31.out) (Kd.R_base ho0) hb); have n3_ := Aside0.mk (Kd.R_elder' (by (with_reducible repeat (first | apply Kd.R_alloc | apply Kd.R_drewN | apply Kd.R_drew)); exact HO422.out) (Kd.R_base ho0) hb); have n4_ := Aside0.mk (Kd.R_lower (Kd.R_new' (Kd.R_new' (Kd.R_new' ho0 (Kd.R_lt (by (with_reducible repeat (first | apply Kd.R_alloc | apply Kd.R_drewN | apply Kd.R_drew)); exact HO_12.out))) (Kd.R_lt (by (with_reducible repeat (first | apply Kd.R_alloc | apply Kd.R_drewN | apply Kd.R_drew)); exact HO_13.out))) (Kd.R_lt (by (with_reducible repeat (first | apply Kd.R_alloc | apply Kd.R_drewN | apply Kd.R_drew)); exact HO422.out))) (below_size (by repeat (first | (with_reducible first | exact HB.out | apply below_alloc | apply pw_below_drewN | apply below_drew1) | exact HB.out)))); have n5_ := Aside0.mk (below_step (by repeat (first | (with_reducible first | exact HB.out | apply below_alloc | apply pw_below_drewN | apply below_drew1) | exact HB.out)) hb); clear HO_12; clear HO_13; clear HO_31; clear HO422; clear HB; have HO_12 := n0_; have HO_13 := n1_; have HO_31 := n2_; have HO422 := n3_; have HO426 := n4_; have HB := n5_; clear n0_ n1_ n2_ n3_ n4_ n5_; (try clear hb); (try clear hb2); (try clear hk); (try clear hi); (try clear ho0)))
        (try simp only [Act.put, List.setIfInBounds_toArray, List.set_cons_zero, List.set_cons_succ])
        go_cut [101] (fun v101 wc => ∃ (kq : Nat) (x101_56 : Bool), v101 = .bool x101_56 ∧ Aside0 (marigraphlaw12_AggShift.j1 kq t388 (wrap64 ((wrap64 (Int.tmod a1 1000)) + 1)) (wrap64 (Int.tmod a2 1000)) t419 t423 x101_56 = some r) ∧ Aside0 (kq ≤ k1) ∧ Aside0 (Kd.R k33 33 wc w.heap.size (fun k_ => some k_ ≠ (v425 : Value).ownBlock) v421 t419) ∧ Aside0 (Kd.R k33 33 wc w.heap.size (fun k_ => some k_ ≠ (v421 : Value).ownBlock) v425 t423) ∧ Aside0 (Below w.heap.size w wc))
        case first =>
          have H := HC57.out
          clear HC57
          by_cases c62 : t420 = 0
          · rw [if_pos c62] at H
            have c62b0 : (t420 == 0) = true := beq_iff_eq.mpr c62
            have c62b1 : (t420 != 0) = false := bne_eq_false_iff_eq.mpr c62
            clear c62
            (first | rw [c62b0] | (simp only [i64_w, i32_w]; rw [c62b0]) | skip)
            by_cases c63 : t424 = 0
            · rw [if_pos c63] at H
              have c63b0 : (t424 == 0) = true := beq_iff_eq.mpr c63
              have c63b1 : (t424 != 0) = false := bne_eq_false_iff_eq.mpr c63
              clear c63
              have H' := Aside0.mk H
              clear H
              obtain ⟨Ao64, co64, eo64⟩ := Kd.R_slice HO422.out
              subst eo64
              obtain ⟨Ao65, co65, eo65⟩ := Kd.R_slice HO426.out
              subst eo65
              go_wp2
              go_meet
              case rel => exact ⟨_, (((t419.length : Int) != (t423.length : Int))), (by first | rfl | (simp; done) | (simp [*]; done) | (simp <;> grind)), H', ⟨by have := HK1.out; first | omega | exact Nat.le_refl _⟩, ⟨by (with_reducible repeat (first | apply Kd.R_alloc | apply Kd.R_drewN | apply Kd.R_drew)); exact Kd.R_mono HO422.out (fun _ hk => hk.2)⟩, ⟨by (with_reducible repeat (first | apply Kd.R_alloc | apply Kd.R_drewN | apply Kd.R_drew)); exact Kd.R_mono HO426.out (fun _ hk => hk.2)⟩, ⟨by repeat (first | (with_reducible first | exact HB.out | apply below_alloc | apply pw_below_drewN | apply below_drew1) | exact HB.out)⟩⟩
            · rw [if_neg c63] at H
              have c63b0 : (t424 == 0) = false := beq_eq_false_iff_ne.mpr c63
              have c63b1 : (t424 != 0) = true := bne_iff_ne.mpr c63
              have H' := Aside0.mk H
              clear H
              go_wp2
              go_meet
              case rel => exact ⟨_, (true), (by first | rfl | (simp; done) | (simp [*]; done) | (simp <;> grind)), H', ⟨by have := HK1.out; first | omega | exact Nat.le_refl _⟩, ⟨by (with_reducible repeat (first | apply Kd.R_alloc | apply Kd.R_drewN | apply Kd.R_drew)); exact Kd.R_mono HO422.out (fun _ hk => hk.2)⟩, ⟨by (with_reducible repeat (first | apply Kd.R_alloc | apply Kd.R_drewN | apply Kd.R_drew)); exact Kd.R_mono HO426.out (fun _ hk => hk.2)⟩, ⟨by repeat (first | (with_reducible first | exact HB.out | apply below_alloc | apply pw_below_drewN | apply below_drew1) | exact HB.out)⟩⟩
          · rw [if_neg c62] at H
            have c62b0 : (t420 == 0) = false := beq_eq_false_iff_ne.mpr c62
            have c62b1 : (t420 != 0) = true := bne_iff_ne.mpr c62
            (first | rw [c62b0] | (simp only [i64_w, i32_w]; rw [c62b0]) | skip)
            have H' := Aside0.mk H
            clear H
            go_wp2
            go_meet
            case rel => exact ⟨_, (true), (by first | rfl | (simp; done) | (simp [*]; done) | (simp <;> grind)), H', ⟨by have := HK1.out; first | omega | exact Nat.le_refl _⟩, ⟨by (with_reducible repeat (first | apply Kd.R_alloc | apply Kd.R_drewN | apply Kd.R_drew)); exact Kd.R_mono HO422.out (fun _ hk => hk.2)⟩, ⟨by (with_reducible repeat (first | apply Kd.R_alloc | apply Kd.R_drewN | apply Kd.R_drew)); exact Kd.R_mono HO426.out (fun _ hk => hk.2)⟩, ⟨by repeat (first | (with_reducible first | exact HB.out | apply below_alloc | apply pw_below_drewN | apply below_drew1) | exact HB.out)⟩⟩
        case rest =>
          clear HC57
          try clear c1
          try clear c2
          try clear p2
          try clear c3
          try clear c6
          try clear p6
          try clear c10
          try clear c10b0
          try clear c11
          try clear c12
          try clear c34
          try clear c38
          try clear c39
          try clear c62
          try clear c62b0
          try clear c62b1
          try clear c63
          try clear c63b0
          try clear c63b1
          try clear p64
          obtain ⟨kq, x101_56, rfl, HA, HJ56, HO_17, HO_19, HB⟩ := hcut
          cases kq with
          | zero => exact absurd HA.out (by simp [marigraphlaw12_AggShift.j1])
          | succ kj56 =>
            have H := HA.out
            clear HA
            simp only [marigraphlaw12_AggShift.j1] at H
            by_cases c66 : x101_56 = true
            · subst c66
              have H1 : (some false) = some r := by rw [if_pos rfl] at H; exact H
              clear H
              have H := H1
              clear H1
              obtain rfl := Option.some.inj H
              go_wp2
              go_ret
              exact ⟨by first | rfl | (simp [errW_none, errW_some] <;> rfl) | (simp [*, errW_none, errW_some] <;> rfl), by repeat (first | (with_reducible first | exact HB.out | apply below_alloc | apply pw_below_drewN | apply below_drew1) | exact HB.out)⟩
            · replace c66 := Bool.eq_false_iff.mpr c66
              subst c66
              have H1 : (marigraphlaw12_AggShift.l1 kj56 t388 (wrap64 ((wrap64 (Int.tmod a1 1000)) + 1)) (wrap64 (Int.tmod a2 1000)) t419 t423 (t419.length : Int) 0) = some r := by rw [if_neg (show ¬ (false = true) by decide)] at H; exact H
              clear H
              have H := H1
              clear H1
              have H' := Aside0.mk H
              clear H
              obtain ⟨Ao67, co67, eo67⟩ := Kd.R_slice HO_17.out
              subst eo67
              go_wp2
              go_loopg [104] kj56 (fun kq v104 w' => ∃ (x104_3 : Int), v104 = .int .i64 x104_3 ∧ Aside0 (marigraphlaw12_AggShift.l1 kq t388 (wrap64 ((wrap64 (Int.tmod a1 1000)) + 1)) (wrap64 (Int.tmod a2 1000)) t419 t423 (t419.length : Int) x104_3 = some r) ∧ Aside0 (kq ≤ kj56) ∧ Aside0 (Kd.R k33 33 w' w.heap.size (fun k_ => some k_ ≠ (v425 : Value).ownBlock) (.slice Ao67 t419.length co67) t419) ∧ Aside0 (Kd.R k33 33 w' w.heap.size (fun k_ => some k_ ≠ ((.slice Ao67 t419.length co67) : Value).ownBlock) v425 t423) ∧ Aside0 (Below w.heap.size w w'))
              case atStart => exact ⟨(0), (by first | rfl | (simp; done) | (simp [*]; done) | (simp <;> grind)), H', ⟨Nat.le_refl _⟩, ⟨by (with_reducible repeat (first | apply Kd.R_alloc | apply Kd.R_drewN | apply Kd.R_drew)); exact HO_17.out⟩, ⟨by (with_reducible repeat (first | apply Kd.R_alloc | apply Kd.R_drewN | apply Kd.R_drew)); exact HO_19.out⟩, ⟨by repeat (first | (with_reducible first | exact HB.out | apply below_alloc | apply pw_below_drewN | apply below_drew1) | exact HB.out)⟩⟩
              case round =>
                clear H'
                try clear c1
                try clear c2
                try clear p2
                try clear c3
                try clear c6
                try clear p6
                try clear c10
                try clear c10b0
                try clear c11
                try clear c12
                try clear c34
                try clear c38
                try clear c39
                try clear c62
                try clear c62b0
                try clear c62b1
                try clear c63
                try clear c63b0
                try clear c63b1
                try clear p64
                try clear c66
                try clear p2
                try clear p6
                try clear p64
                obtain ⟨x104_3, rfl, HA, HK3, HO_17, HO_19, HB⟩ := hrel
                cases gk with
                | zero => exact absurd HA.out (by simp [marigraphlaw12_AggShift.l1])
                | succ k3 =>
                  have H := HA.out
                  clear HA
                  simp only [marigraphlaw12_AggShift.l1] at H
                  by_cases c68 : x104_3 < (t419.length : Int)
                  · rw [if_pos c68] at H
                    have c68b0 : decide (x104_3 < (t419.length : Int)) = true := decide_eq_true c68
                    clear c68
                    by_cases c69 : 0 ≤ x104_3
                    · rw [if_pos c69] at H
                      have c69b0 : decide (0 ≤ x104_3) = true := decide_eq_true c69
                      clear c69
                      by_cases c70 : x104_3 < (t423.length : Int)
                      · rw [if_pos c70] at H
                        have c70b0 : decide (x104_3 < (t423.length : Int)) = true := decide_eq_true c70
                        clear c70
                        by_cases c71 : x104_3 < (t419.length : Int)
                        · rw [if_pos c71] at H
                          have c71b0 : decide (x104_3 < (t419.length : Int)) = true := decide_eq_true c71
                          clear c71
                          by_cases c72 : (!(((rd_T33 t423 x104_3).f0) == (wrap64 (((rd_T33 t419 x104_3).f0) + (wrap64 ((wrap64 ((wrap64 (Int.tmod a1 1000)) + 1)) * (wrap64 (Int.tmod a2 1000))))))) || (!(((rd_T33 t423 x104_3).f1) == ((rd_T33 t419 x104_3).f1)))) = true
                          · rw [if_pos c72] at H
                            have c72b0 : (!(((rd_T33 t423 x104_3).f0) == (wrap64 (((rd_T33 t419 x104_3).f0) + (wrap64 ((wrap64 ((wrap64 (Int.tmod a1 1000)) + 1)) * (wrap64 (Int.tmod a2 1000))))))) || (!(((rd_T33 t423 x104_3).f1) == ((rd_T33 t419 x104_3).f1)))) = true := c72
                            clear c72
                            obtain rfl := Option.some.inj H
                            try go_wp2
                            have n0_ := Aside0.mk (Kd.R_drew HO_17.out)
                            have n1_ := Aside0.mk (Kd.R_drew HO_19.out)
                            have n2_ := Aside0.mk (below_drew1 HB.out)
                            clear HO_17
                            clear HO_19
                            clear HB
                            have HO_17 := n0_
                            have HO_19 := n1_
                            have HB := n2_
                            clear n0_ n1_ n2_
                            obtain ⟨Ao74, co74, eo74⟩ := Kd.R_slice HO_19.out
                            (first | subst eo74 | (injection eo74 with f1_ f2_ f3_; have f4_ := f1_.symm; have f5_ := f3_.symm; clear f1_ f2_ f3_; subst f4_; subst f5_))
                            have p427 : 0 ≤ (x104_3 : Int) := of_decide_eq_true (by first | (with_reducible assumption) | assumption)
                            have q427 : x104_3 < (t423.length : Int) := of_decide_eq_true (by first | (with_reducible assumption) | assumption)
                            obtain ⟨ad427, e427, hx427_0, hx427_1⟩ := at_T33 (Kd.R_reads' HO_19.out).2.2 x104_3 p427 q427
                            cases e427
                            replace p427 := eq_true p427
                            replace q427 := eq_true q427
                            have p428 : 0 ≤ (x104_3 : Int) := of_decide_eq_true (by first | (with_reducible assumption) | assumption)
                            have q428 : x104_3 < (t419.length : Int) := of_decide_eq_true (by first | (with_reducible assumption) | assumption)
                            obtain ⟨ad428, e428, hx428_0, hx428_1⟩ := at_T33 (Kd.R_reads' HO_17.out).2.2 x104_3 p428 q428
                            cases e428
                            replace p428 := eq_true p428
                            replace q428 := eq_true q428
                            have p429 : 0 ≤ (x104_3 : Int) := of_decide_eq_true (by first | (with_reducible assumption) | assumption)
                            have q429 : x104_3 < (t419.length : Int) := of_decide_eq_true (by first | (with_reducible assumption) | assumption)
                            obtain ⟨ad429, e429, hx429_0, hx429_1⟩ := at_T33 (Kd.R_reads' HO_17.out).2.2 x104_3 p429 q429
                            obtain rfl : ad428 = ad429 := (by injection e429)
                            replace p429 := eq_true p429
                            replace q429 := eq_true q429
                            refine start_ (n := 20) (S := fun w' => w'.cell? (ad427.add ((x104_3).toNat * 2)) = some (.int .i64 ((rd_T33 t423 x104_3).f0)) ∧ w'.cell? ⟨(ad427.add ((x104_3).toNat * 2)).block, (ad427.add ((x104_3).toNat * 2)).off + 1, none⟩ = some (.int .i64 ((rd_T33 t423 x104_3).f1)) ∧ w'.cell? (ad428.add ((x104_3).toNat * 2)) = some (.int .i64 ((rd_T33 t419 x104_3).f0)) ∧ w'.cell? ⟨(ad428.add ((x104_3).toNat * 2)).block, (ad428.add ((x104_3).toNat * 2)).off + 1, none⟩ = some (.int .i64 ((rd_T33 t419 x104_3).f1)) ∧ w'.cell? (ad428.add ((x104_3).toNat * 2)) = some (.int .i64 ((rd_T33 t419 x104_3).f0)) ∧ w'.cell? ⟨(ad428.add ((x104_3).toNat * 2)).block, (ad428.add ((x104_3).toNat * 2)).off + 1, none⟩ = some (.int .i64 ((rd_T33 t419 x104_3).f1))) (ds := []) #[false, false, false, false, false, false, false, false, false, false, false, false, false, false, false, false, false, false, false, false] (by kernel_rfl) rfl rfl ⟨hx427_0, hx427_1, hx428_0, hx428_1, hx429_0, hx429_1⟩ (fun hHeld => ?_); refine with_tabW marigraphlaw12_AggShift.tab18 marigraphlaw12_AggShift.bits18 (fun HT_ HW_ => ?_)
                            generalize wr.drew = w73 at HO_17 HO_19 HB hx427_0 hx427_1 hx428_0 hx428_1 hx429_0 hx429_1 hHeld ⊢
                            refine pure_ (i := 0) (N := some 107) (v := ?_) (a' := ?_) #[true, false, false, false, false, false, false, false, false, false, false, false, false, false, false, false, false, false, false, false] rfl rfl (any_of HT_.out (by kernel_rfl)) (fun _ _ _ h => h) (Or.inl ⟨by rfl, ?_⟩) ?_ ?_
                            rotate_left
                            · intro w'
                              go_simp
                              with_reducible rfl
                            rotate_left
                            · simp only [Act.put, List.setIfInBounds_toArray, List.set_cons_zero, List.set_cons_succ, i64_w, i32_w]
                              rfl
                            refine pure_ (i := 1) (N := some 108) (v := ?_) (a' := ?_) #[true, true, false, false, false, false, false, false, false, false, false, false, false, false, false, false, false, false, false, false] rfl rfl (any_of HT_.out (by kernel_rfl)) (fun _ _ _ h => h) (Or.inl ⟨by rfl, ?_⟩) ?_ ?_
                            rotate_left
                            · intro w'
                              go_simp
                              with_reducible rfl
                            rotate_left
                            · simp only [Act.put, List.setIfInBounds_toArray, List.set_cons_zero, List.set_cons_succ, i64_w, i32_w]
                              rfl
                            refine pure_ (i := 2) (N := some 109) (v := ?_) (a' := ?_) #[true, true, true, false, false, false, false, false, false, false, false, false, false, false, false, false, false, false, false, false] rfl rfl (any_of HT_.out (by kernel_rfl)) (fun _ _ _ h => h) (Or.inl ⟨by rfl, ?_⟩) ?_ ?_
                            rotate_left
                            · intro w'
                              go_simp
                              with_reducible rfl
                            rotate_left
                            · simp only [Act.put, List.setIfInBounds_toArray, List.set_cons_zero, List.set_cons_succ, i64_w, i32_w]
                              rfl
                            refine pure_ (i := 4) (N := some 111) (v := ?_) (a' := ?_) #[true, true, true, false, true, false, false, false, false, false, false, false, false, false, false, false, false, false, false, false] rfl rfl (any_of HT_.out (by kernel_rfl)) (fun _ _ _ h => h) (Or.inl ⟨by rfl, ?_⟩) ?_ ?_
                            rotate_left
                            · intro w'
                              go_simp
                              with_reducible rfl
                            rotate_left
                            · simp only [Act.put, List.setIfInBounds_toArray, List.set_cons_zero, List.set_cons_succ, i64_w, i32_w]
                              rfl
                            refine pure_ (i := 5) (N := some 112) (v := ?_) (a' := ?_) #[true, true, true, false, true, true, false, false, false, false, false, false, false, false, false, false, false, false, false, false] rfl rfl (any_of HT_.out (by kernel_rfl)) (fun _ _ _ h => h) (Or.inl ⟨by rfl, ?_⟩) ?_ ?_
                            rotate_left
                            · intro w'
                              go_simp
                              with_reducible rfl
                            rotate_left
                            · simp only [Act.put, List.setIfInBounds_toArray, List.set_cons_zero, List.set_cons_succ, i64_w, i32_w]
                              rfl
                            refine pure_ (i := 6) (N := some 113) (v := ?_) (a' := ?_) #[true, true, true, false, true, true, true, false, false, false, false, false, false, false, false, false, false, false, false, false] rfl rfl (any_of HT_.out (by kernel_rfl)) (fun _ _ _ h => h) (Or.inl ⟨by rfl, ?_⟩) ?_ ?_
                            rotate_left
                            · intro w'
                              go_simp
                              with_reducible rfl
                            rotate_left
                            · simp only [Act.put, List.setIfInBounds_toArray, List.set_cons_zero, List.set_cons_succ, i64_w, i32_w]
                              rfl
                            refine pure_ (i := 7) (N := some 114) (v := ?_) (a' := ?_) #[true, true, true, false, true, true, true, true, false, false, false, false, false, false, false, false, false, false, false, false] rfl rfl (any_of HT_.out (by kernel_rfl)) (fun _ _ _ h => h) (Or.inl ⟨by rfl, ?_⟩) ?_ ?_
                            rotate_left
                            · intro w'
                              go_simp
                              with_reducible rfl
                            rotate_left
                            · simp only [Act.put, List.setIfInBounds_toArray, List.set_cons_zero, List.set_cons_succ, i64_w, i32_w]
                              rfl
                            refine pure_ (i := 9) (N := some 116) (v := ?_) (a' := ?_) #[true, true, true, false, true, true, true, true, false, true, false, false, false, false, false, false, false, false, false, false] rfl rfl (any_of HT_.out (by kernel_rfl)) (fun _ _ _ h => h) (Or.inl ⟨by rfl, ?_⟩) ?_ ?_
                            rotate_left
                            · intro w'
                              go_simp
                              with_reducible rfl
                            rotate_left
                            · simp only [Act.put, List.setIfInBounds_toArray, List.set_cons_zero, List.set_cons_succ, i64_w, i32_w]
                              rfl
                            refine pure_ (i := 10) (N := some 117) (v := ?_) (a' := ?_) #[true, true, true, false, true, true, true, true, false, true, true, false, false, false, false, false, false, false, false, false] rfl rfl (any_of HT_.out (by kernel_rfl)) (fun _ _ _ h => h) (Or.inl ⟨by rfl, ?_⟩) ?_ ?_
                            rotate_left
                            · intro w'
                              go_simp
                              with_reducible rfl
                            rotate_left
                            · simp only [Act.put, List.setIfInBounds_toArray, List.set_cons_zero, List.set_cons_succ, i64_w, i32_w]
                              rfl
                            refine pure_ (i := 11) (N := some 118) (v := ?_) (a' := ?_) #[true, true, true, false, true, true, true, true, false, true, true, true, false, false, false, false, false, false, false, false] rfl rfl (any_of HT_.out (by kernel_rfl)) (fun _ _ _ h => h) (Or.inl ⟨by rfl, ?_⟩) ?_ ?_
                            rotate_left
                            · intro w'
                              go_simp
                              with_reducible rfl
                            rotate_left
                            · simp only [Act.put, List.setIfInBounds_toArray, List.set_cons_zero, List.set_cons_succ, i64_w, i32_w]
                              rfl
                            refine pure_ (i := 13) (N := some 120) (v := ?_) (a' := ?_) #[true, true, true, false, true, true, true, true, false, true, true, true, false, true, false, false, false, false, false, false] rfl rfl (any_of HT_.out (by kernel_rfl)) (fun _ _ _ h => h) (Or.inl ⟨by rfl, ?_⟩) ?_ ?_
                            rotate_left
                            · intro w'
                              go_simp
                              with_reducible rfl
                            rotate_left
                            · simp only [Act.put, List.setIfInBounds_toArray, List.set_cons_zero, List.set_cons_succ, i64_w, i32_w]
                              rfl
                            refine pure_ (i := 14) (N := some 121) (v := ?_) (a' := ?_) #[true, true, true, false, true, true, true, true, false, true, true, true, false, true, true, false, false, false, false, false] rfl rfl (any_of HT_.out (by kernel_rfl)) (fun _ _ _ h => h) (Or.inl ⟨by rfl, ?_⟩) ?_ ?_
                            rotate_left
                            · intro w'
                              go_simp
                              with_reducible rfl
                            rotate_left
                            · simp only [Act.put, List.setIfInBounds_toArray, List.set_cons_zero, List.set_cons_succ, i64_w, i32_w]
                              rfl
                            refine pure_ (i := 15) (N := some 122) (v := ?_) (a' := ?_) #[true, true, true, false, true, true, true, true, false, true, true, true, false, true, true, true, false, false, false, false] rfl rfl (any_of HT_.out (by kernel_rfl)) (fun _ _ _ h => h) (Or.inl ⟨by rfl, ?_⟩) ?_ ?_
                            rotate_left
                            · intro w'
                              go_simp
                              with_reducible rfl
                            rotate_left
                            · simp only [Act.put, List.setIfInBounds_toArray, List.set_cons_zero, List.set_cons_succ, i64_w, i32_w]
                              rfl
                            refine pure_ (i := 16) (N := some 123) (v := ?_) (a' := ?_) #[true, true, true, false, true, true, true, true, false, true, true, true, false, true, true, true, true, false, false, false] rfl rfl (any_of HT_.out (by kernel_rfl)) (fun _ _ _ h => h) (Or.inl ⟨by rfl, ?_⟩) ?_ ?_
                            rotate_left
                            · intro w'
                              go_simp
                              with_reducible rfl
                            rotate_left
                            · simp only [Act.put, List.setIfInBounds_toArray, List.set_cons_zero, List.set_cons_succ, i64_w, i32_w]
                              rfl
                            refine take_ (i := 3) (N := some 110) (v := ?_) (a' := ?_) #[true, true, true, true, true, true, true, true, false, true, true, true, false, true, true, true, true, false, false, false] rfl rfl (take_ofW HT_.out HW_.out (by kernel_rfl)) (fun _ _ _ h => h) (Or.inl ⟨by rfl, ?_⟩) hHeld ?_ ?_
                            rotate_left
                            · rintro w' ⟨s0, s1, s2, s3, s4, s5⟩
                              go_simp
                              with_reducible rfl
                            rotate_left
                            · simp only [Act.put, List.setIfInBounds_toArray, List.set_cons_zero, List.set_cons_succ, i64_w, i32_w]
                              rfl
                            refine take_ (i := 8) (N := some 115) (v := ?_) (a' := ?_) #[true, true, true, true, true, true, true, true, true, true, true, true, false, true, true, true, true, false, false, false] rfl rfl (take_ofW HT_.out HW_.out (by kernel_rfl)) (fun _ _ _ h => h) (Or.inl ⟨by rfl, ?_⟩) hHeld ?_ ?_
                            rotate_left
                            · rintro w' ⟨s0, s1, s2, s3, s4, s5⟩
                              go_simp
                              with_reducible rfl
                            rotate_left
                            · simp only [Act.put, List.setIfInBounds_toArray, List.set_cons_zero, List.set_cons_succ, i64_w, i32_w]
                              rfl
                            refine pure_ (i := 12) (N := some 119) (v := ?_) (a' := ?_) #[true, true, true, true, true, true, true, true, true, true, true, true, true, true, true, true, true, false, false, false] rfl rfl (any_of HT_.out (by kernel_rfl)) (fun _ _ _ h => h) (Or.inl ⟨by rfl, ?_⟩) ?_ ?_
                            rotate_left
                            · intro w'
                              go_simp
                              with_reducible rfl
                            rotate_left
                            · simp only [Act.put, List.setIfInBounds_toArray, List.set_cons_zero, List.set_cons_succ, i64_w, i32_w]
                              rfl
                            refine take_ (i := 17) (N := some 124) (v := ?_) (a' := ?_) #[true, true, true, true, true, true, true, true, true, true, true, true, true, true, true, true, true, true, false, false] rfl rfl (take_ofW HT_.out HW_.out (by kernel_rfl)) (fun _ _ _ h => h) (Or.inl ⟨by rfl, ?_⟩) hHeld ?_ ?_
                            rotate_left
                            · rintro w' ⟨s0, s1, s2, s3, s4, s5⟩
                              go_simp
                              with_reducible rfl
                            rotate_left
                            · simp only [Act.put, List.setIfInBounds_toArray, List.set_cons_zero, List.set_cons_succ, i64_w, i32_w]
                              rfl
                            refine pure_ (i := 18) (N := some 125) (v := ?_) (a' := ?_) #[true, true, true, true, true, true, true, true, true, true, true, true, true, true, true, true, true, true, true, false] rfl rfl (any_of HT_.out (by kernel_rfl)) (fun _ _ _ h => h) (Or.inl ⟨by rfl, ?_⟩) ?_ ?_
                            rotate_left
                            · intro w'
                              go_simp
                              with_reducible rfl
                            rotate_left
                            · simp only [Act.put, List.setIfInBounds_toArray, List.set_cons_zero, List.set_cons_succ, i64_w, i32_w]
                              rfl
                            refine pure_ (i := 19) (N := some 126) (v := ?_) (a' := ?_) #[true, true, true, true, true, true, true, true, true, true, true, true, true, true, true, true, true, true, true, true] rfl rfl (any_of HT_.out (by kernel_rfl)) (fun _ _ _ h => h) (Or.inl ⟨by rfl, ?_⟩) ?_ ?_
                            rotate_left
                            · intro w'
                              go_simp
                              with_reducible rfl
                            rotate_left
                            · simp only [Act.put, List.setIfInBounds_toArray, List.set_cons_zero, List.set_cons_succ, i64_w, i32_w]
                              rfl
                            refine done_ (done_of HT_.out (by kernel_rfl)) ?_
                            try go_wp2
                            go_ret
                            exact ⟨by first | rfl | (simp [errW_none, errW_some] <;> rfl) | (simp [*, errW_none, errW_some] <;> rfl), by repeat (first | (with_reducible first | exact HB.out | apply below_alloc | apply pw_below_drewN | apply below_drew1) | exact HB.out)⟩
                          · rw [if_neg c72] at H
                            have c72b0 : (!(((rd_T33 t423 x104_3).f0) == (wrap64 (((rd_T33 t419 x104_3).f0) + (wrap64 ((wrap64 ((wrap64 (Int.tmod a1 1000)) + 1)) * (wrap64 (Int.tmod a2 1000))))))) || (!(((rd_T33 t423 x104_3).f1) == ((rd_T33 t419 x104_3).f1)))) = false := by simpa using c72
                            clear c72
                            have H' := Aside0.mk H
                            clear H
                            try go_wp2
                            have n0_ := Aside0.mk (Kd.R_drew HO_17.out)
                            have n1_ := Aside0.mk (Kd.R_drew HO_19.out)
                            have n2_ := Aside0.mk (below_drew1 HB.out)
                            clear HO_17
                            clear HO_19
                            clear HB
                            have HO_17 := n0_
                            have HO_19 := n1_
                            have HB := n2_
                            clear n0_ n1_ n2_
                            obtain ⟨Ao76, co76, eo76⟩ := Kd.R_slice HO_19.out
                            (first | subst eo76 | (injection eo76 with f1_ f2_ f3_; have f4_ := f1_.symm; have f5_ := f3_.symm; clear f1_ f2_ f3_; subst f4_; subst f5_))
                            have p427 : 0 ≤ (x104_3 : Int) := of_decide_eq_true (by first | (with_reducible assumption) | assumption)
                            have q427 : x104_3 < (t423.length : Int) := of_decide_eq_true (by first | (with_reducible assumption) | assumption)
                            obtain ⟨ad427, e427, hx427_0, hx427_1⟩ := at_T33 (Kd.R_reads' HO_19.out).2.2 x104_3 p427 q427
                            cases e427
                            replace p427 := eq_true p427
                            replace q427 := eq_true q427
                            have p428 : 0 ≤ (x104_3 : Int) := of_decide_eq_true (by first | (with_reducible assumption) | assumption)
                            have q428 : x104_3 < (t419.length : Int) := of_decide_eq_true (by first | (with_reducible assumption) | assumption)
                            obtain ⟨ad428, e428, hx428_0, hx428_1⟩ := at_T33 (Kd.R_reads' HO_17.out).2.2 x104_3 p428 q428
                            cases e428
                            replace p428 := eq_true p428
                            replace q428 := eq_true q428
                            have p429 : 0 ≤ (x104_3 : Int) := of_decide_eq_true (by first | (with_reducible assumption) | assumption)
                            have q429 : x104_3 < (t419.length : Int) := of_decide_eq_true (by first | (with_reducible assumption) | assumption)
                            obtain ⟨ad429, e429, hx429_0, hx429_1⟩ := at_T33 (Kd.R_reads' HO_17.out).2.2 x104_3 p429 q429
                            obtain rfl : ad428 = ad429 := (by injection e429)
                            replace p429 := eq_true p429
                            replace q429 := eq_true q429
                            refine start_ (n := 20) (S := fun w' => w'.cell? (ad427.add ((x104_3).toNat * 2)) = some (.int .i64 ((rd_T33 t423 x104_3).f0)) ∧ w'.cell? ⟨(ad427.add ((x104_3).toNat * 2)).block, (ad427.add ((x104_3).toNat * 2)).off + 1, none⟩ = some (.int .i64 ((rd_T33 t423 x104_3).f1)) ∧ w'.cell? (ad428.add ((x104_3).toNat * 2)) = some (.int .i64 ((rd_T33 t419 x104_3).f0)) ∧ w'.cell? ⟨(ad428.add ((x104_3).toNat * 2)).block, (ad428.add ((x104_3).toNat * 2)).off + 1, none⟩ = some (.int .i64 ((rd_T33 t419 x104_3).f1)) ∧ w'.cell? (ad428.add ((x104_3).toNat * 2)) = some (.int .i64 ((rd_T33 t419 x104_3).f0)) ∧ w'.cell? ⟨(ad428.add ((x104_3).toNat * 2)).block, (ad428.add ((x104_3).toNat * 2)).off + 1, none⟩ = some (.int .i64 ((rd_T33 t419 x104_3).f1))) (ds := []) #[false, false, false, false, false, false, false, false, false, false, false, false, false, false, false, false, false, false, false, false] (by kernel_rfl) rfl rfl ⟨hx427_0, hx427_1, hx428_0, hx428_1, hx429_0, hx429_1⟩ (fun hHeld => ?_); refine with_tabW marigraphlaw12_AggShift.tab18 marigraphlaw12_AggShift.bits18 (fun HT_ HW_ => ?_)
                            generalize wr.drew = w75 at HO_17 HO_19 HB hx427_0 hx427_1 hx428_0 hx428_1 hx429_0 hx429_1 hHeld ⊢
                            refine pure_ (i := 0) (N := some 107) (v := ?_) (a' := ?_) #[true, false, false, false, false, false, false, false, false, false, false, false, false, false, false, false, false, false, false, false] rfl rfl (any_of HT_.out (by kernel_rfl)) (fun _ _ _ h => h) (Or.inl ⟨by rfl, ?_⟩) ?_ ?_
                            rotate_left
                            · intro w'
                              go_simp
                              with_reducible rfl
                            rotate_left
                            · simp only [Act.put, List.setIfInBounds_toArray, List.set_cons_zero, List.set_cons_succ, i64_w, i32_w]
                              rfl
                            refine pure_ (i := 1) (N := some 108) (v := ?_) (a' := ?_) #[true, true, false, false, false, false, false, false, false, false, false, false, false, false, false, false, false, false, false, false] rfl rfl (any_of HT_.out (by kernel_rfl)) (fun _ _ _ h => h) (Or.inl ⟨by rfl, ?_⟩) ?_ ?_
                            rotate_left
                            · intro w'
                              go_simp
                              with_reducible rfl
                            rotate_left
                            · simp only [Act.put, List.setIfInBounds_toArray, List.set_cons_zero, List.set_cons_succ, i64_w, i32_w]
                              rfl
                            refine pure_ (i := 2) (N := some 109) (v := ?_) (a' := ?_) #[true, true, true, false, false, false, false, false, false, false, false, false, false, false, false, false, false, false, false, false] rfl rfl (any_of HT_.out (by kernel_rfl)) (fun _ _ _ h => h) (Or.inl ⟨by rfl, ?_⟩) ?_ ?_
                            rotate_left
                            · intro w'
                              go_simp
                              with_reducible rfl
                            rotate_left
                            · simp only [Act.put, List.setIfInBounds_toArray, List.set_cons_zero, List.set_cons_succ, i64_w, i32_w]
                              rfl
                            refine pure_ (i := 4) (N := some 111) (v := ?_) (a' := ?_) #[true, true, true, false, true, false, false, false, false, false, false, false, false, false, false, false, false, false, false, false] rfl rfl (any_of HT_.out (by kernel_rfl)) (fun _ _ _ h => h) (Or.inl ⟨by rfl, ?_⟩) ?_ ?_
                            rotate_left
                            · intro w'
                              go_simp
                              with_reducible rfl
                            rotate_left
                            · simp only [Act.put, List.setIfInBounds_toArray, List.set_cons_zero, List.set_cons_succ, i64_w, i32_w]
                              rfl
                            refine pure_ (i := 5) (N := some 112) (v := ?_) (a' := ?_) #[true, true, true, false, true, true, false, false, false, false, false, false, false, false, false, false, false, false, false, false] rfl rfl (any_of HT_.out (by kernel_rfl)) (fun _ _ _ h => h) (Or.inl ⟨by rfl, ?_⟩) ?_ ?_
                            rotate_left
                            · intro w'
                              go_simp
                              with_reducible rfl
                            rotate_left
                            · simp only [Act.put, List.setIfInBounds_toArray, List.set_cons_zero, List.set_cons_succ, i64_w, i32_w]
                              rfl
                            refine pure_ (i := 6) (N := some 113) (v := ?_) (a' := ?_) #[true, true, true, false, true, true, true, false, false, false, false, false, false, false, false, false, false, false, false, false] rfl rfl (any_of HT_.out (by kernel_rfl)) (fun _ _ _ h => h) (Or.inl ⟨by rfl, ?_⟩) ?_ ?_
                            rotate_left
                            · intro w'
                              go_simp
                              with_reducible rfl
                            rotate_left
                            · simp only [Act.put, List.setIfInBounds_toArray, List.set_cons_zero, List.set_cons_succ, i64_w, i32_w]
                              rfl
                            refine pure_ (i := 7) (N := some 114) (v := ?_) (a' := ?_) #[true, true, true, false, true, true, true, true, false, false, false, false, false, false, false, false, false, false, false, false] rfl rfl (any_of HT_.out (by kernel_rfl)) (fun _ _ _ h => h) (Or.inl ⟨by rfl, ?_⟩) ?_ ?_
                            rotate_left
                            · intro w'
                              go_simp
                              with_reducible rfl
                            rotate_left
                            · simp only [Act.put, List.setIfInBounds_toArray, List.set_cons_zero, List.set_cons_succ, i64_w, i32_w]
                              rfl
                            refine pure_ (i := 9) (N := some 116) (v := ?_) (a' := ?_) #[true, true, true, false, true, true, true, true, false, true, false, false, false, false, false, false, false, false, false, false] rfl rfl (any_of HT_.out (by kernel_rfl)) (fun _ _ _ h => h) (Or.inl ⟨by rfl, ?_⟩) ?_ ?_
                            rotate_left
                            · intro w'
                              go_simp
                              with_reducible rfl
                            rotate_left
                            · simp only [Act.put, List.setIfInBounds_toArray, List.set_cons_zero, List.set_cons_succ, i64_w, i32_w]
                              rfl
                            refine pure_ (i := 10) (N := some 117) (v := ?_) (a' := ?_) #[true, true, true, false, true, true, true, true, false, true, true, false, false, false, false, false, false, false, false, false] rfl rfl (any_of HT_.out (by kernel_rfl)) (fun _ _ _ h => h) (Or.inl ⟨by rfl, ?_⟩) ?_ ?_
                            rotate_left
                            · intro w'
                              go_simp
                              with_reducible rfl
                            rotate_left
                            · simp only [Act.put, List.setIfInBounds_toArray, List.set_cons_zero, List.set_cons_succ, i64_w, i32_w]
                              rfl
                            refine pure_ (i := 11) (N := some 118) (v := ?_) (a' := ?_) #[true, true, true, false, true, true, true, true, false, true, true, true, false, false, false, false, false, false, false, false] rfl rfl (any_of HT_.out (by kernel_rfl)) (fun _ _ _ h => h) (Or.inl ⟨by rfl, ?_⟩) ?_ ?_
                            rotate_left
                            · intro w'
                              go_simp
                              with_reducible rfl
                            rotate_left
                            · simp only [Act.put, List.setIfInBounds_toArray, List.set_cons_zero, List.set_cons_succ, i64_w, i32_w]
                              rfl
                            refine pure_ (i := 13) (N := some 120) (v := ?_) (a' := ?_) #[true, true, true, false, true, true, true, true, false, true, true, true, false, true, false, false, false, false, false, false] rfl rfl (any_of HT_.out (by kernel_rfl)) (fun _ _ _ h => h) (Or.inl ⟨by rfl, ?_⟩) ?_ ?_
                            rotate_left
                            · intro w'
                              go_simp
                              with_reducible rfl
                            rotate_left
                            · simp only [Act.put, List.setIfInBounds_toArray, List.set_cons_zero, List.set_cons_succ, i64_w, i32_w]
                              rfl
                            refine pure_ (i := 14) (N := some 121) (v := ?_) (a' := ?_) #[true, true, true, false, true, true, true, true, false, true, true, true, false, true, true, false, false, false, false, false] rfl rfl (any_of HT_.out (by kernel_rfl)) (fun _ _ _ h => h) (Or.inl ⟨by rfl, ?_⟩) ?_ ?_
                            rotate_left
                            · intro w'
                              go_simp
                              with_reducible rfl
                            rotate_left
                            · simp only [Act.put, List.setIfInBounds_toArray, List.set_cons_zero, List.set_cons_succ, i64_w, i32_w]
                              rfl
                            refine pure_ (i := 15) (N := some 122) (v := ?_) (a' := ?_) #[true, true, true, false, true, true, true, true, false, true, true, true, false, true, true, true, false, false, false, false] rfl rfl (any_of HT_.out (by kernel_rfl)) (fun _ _ _ h => h) (Or.inl ⟨by rfl, ?_⟩) ?_ ?_
                            rotate_left
                            · intro w'
                              go_simp
                              with_reducible rfl
                            rotate_left
                            · simp only [Act.put, List.setIfInBounds_toArray, List.set_cons_zero, List.set_cons_succ, i64_w, i32_w]
                              rfl
                            refine pure_ (i := 16) (N := some 123) (v := ?_) (a' := ?_) #[true, true, true, false, true, true, true, true, false, true, true, true, false, true, true, true, true, false, false, false] rfl rfl (any_of HT_.out (by kernel_rfl)) (fun _ _ _ h => h) (Or.inl ⟨by rfl, ?_⟩) ?_ ?_
                            rotate_left
                            · intro w'
                              go_simp
                              with_reducible rfl
                            rotate_left
                            · simp only [Act.put, List.setIfInBounds_toArray, List.set_cons_zero, List.set_cons_succ, i64_w, i32_w]
                              rfl
                            refine take_ (i := 3) (N := some 110) (v := ?_) (a' := ?_) #[true, true, true, true, true, true, true, true, false, true, true, true, false, true, true, true, true, false, false, false] rfl rfl (take_ofW HT_.out HW_.out (by kernel_rfl)) (fun _ _ _ h => h) (Or.inl ⟨by rfl, ?_⟩) hHeld ?_ ?_
                            rotate_left
                            · rintro w' ⟨s0, s1, s2, s3, s4, s5⟩
                              go_simp
                              with_reducible rfl
                            rotate_left
                            · simp only [Act.put, List.setIfInBounds_toArray, List.set_cons_zero, List.set_cons_succ, i64_w, i32_w]
                              rfl
                            refine take_ (i := 8) (N := some 115) (v := ?_) (a' := ?_) #[true, true, true, true, true, true, true, true, true, true, true, true, false, true, true, true, true, false, false, false] rfl rfl (take_ofW HT_.out HW_.out (by kernel_rfl)) (fun _ _ _ h => h) (Or.inl ⟨by rfl, ?_⟩) hHeld ?_ ?_
                            rotate_left
                            · rintro w' ⟨s0, s1, s2, s3, s4, s5⟩
                              go_simp
                              with_reducible rfl
                            rotate_left
                            · simp only [Act.put, List.setIfInBounds_toArray, List.set_cons_zero, List.set_cons_succ, i64_w, i32_w]
                              rfl
                            refine pure_ (i := 12) (N := some 119) (v := ?_) (a' := ?_) #[true, true, true, true, true, true, true, true, true, true, true, true, true, true, true, true, true, false, false, false] rfl rfl (any_of HT_.out (by kernel_rfl)) (fun _ _ _ h => h) (Or.inl ⟨by rfl, ?_⟩) ?_ ?_
                            rotate_left
                            · intro w'
                              go_simp
                              with_reducible rfl
                            rotate_left
                            · simp only [Act.put, List.setIfInBounds_toArray, List.set_cons_zero, List.set_cons_succ, i64_w, i32_w]
                              rfl
                            refine take_ (i := 17) (N := some 124) (v := ?_) (a' := ?_) #[true, true, true, true, true, true, true, true, true, true, true, true, true, true, true, true, true, true, false, false] rfl rfl (take_ofW HT_.out HW_.out (by kernel_rfl)) (fun _ _ _ h => h) (Or.inl ⟨by rfl, ?_⟩) hHeld ?_ ?_
                            rotate_left
                            · rintro w' ⟨s0, s1, s2, s3, s4, s5⟩
                              go_simp
                              with_reducible rfl
                            rotate_left
                            · simp only [Act.put, List.setIfInBounds_toArray, List.set_cons_zero, List.set_cons_succ, i64_w, i32_w]
                              rfl
                            refine pure_ (i := 18) (N := some 125) (v := ?_) (a' := ?_) #[true, true, true, true, true, true, true, true, true, true, true, true, true, true, true, true, true, true, true, false] rfl rfl (any_of HT_.out (by kernel_rfl)) (fun _ _ _ h => h) (Or.inl ⟨by rfl, ?_⟩) ?_ ?_
                            rotate_left
                            · intro w'
                              go_simp
                              with_reducible rfl
                            rotate_left
                            · simp only [Act.put, List.setIfInBounds_toArray, List.set_cons_zero, List.set_cons_succ, i64_w, i32_w]
                              rfl
                            refine pure_ (i := 19) (N := some 126) (v := ?_) (a' := ?_) #[true, true, true, true, true, true, true, true, true, true, true, true, true, true, true, true, true, true, true, true] rfl rfl (any_of HT_.out (by kernel_rfl)) (fun _ _ _ h => h) (Or.inl ⟨by rfl, ?_⟩) ?_ ?_
                            rotate_left
                            · intro w'
                              go_simp
                              with_reducible rfl
                            rotate_left
                            · simp only [Act.put, List.setIfInBounds_toArray, List.set_cons_zero, List.set_cons_succ, i64_w, i32_w]
                              rfl
                            refine done_ (done_of HT_.out (by kernel_rfl)) ?_
                            try go_wp2
                            go_roundg k3
                            case measure => have := HK1.out; have := HJ56.out; have := HK3.out; omega
                            case rel => exact ⟨(wrap64 (x104_3 + 1)), (by first | rfl | (simp; done) | (simp [*]; done) | (simp <;> grind)), H', ⟨by have := HK1.out; have := HJ56.out; have := HK3.out; omega⟩, ⟨by (with_reducible repeat (first | apply Kd.R_alloc | apply Kd.R_drewN | apply Kd.R_drew)); exact HO_17.out⟩, ⟨by (with_reducible repeat (first | apply Kd.R_alloc | apply Kd.R_drewN | apply Kd.R_drew)); exact HO_19.out⟩, ⟨by repeat (first | (with_reducible first | exact HB.out | apply below_alloc | apply pw_below_drewN | apply below_drew1) | exact HB.out)⟩⟩
                        · rw [if_neg c71] at H
                          exact absurd H (by simp)
                      · rw [if_neg c70] at H
                        exact absurd H (by simp)
                    · rw [if_neg c69] at H
                      exact absurd H (by simp)
                  · rw [if_neg c68] at H
                    have c68b0 : decide (x104_3 < (t419.length : Int)) = false := decide_eq_false c68
                    clear c68
                    obtain rfl := Option.some.inj H
                    go_wp2
                    go_ret
                    exact ⟨by first | rfl | (simp [errW_none, errW_some] <;> rfl) | (simp [*, errW_none, errW_some] <;> rfl), by repeat (first | (with_reducible first | exact HB.out | apply below_alloc | apply pw_below_drewN | apply below_drew1) | exact HB.out)⟩

end Go.Proofs.Ytjkpdjadbeidnaa.X
