-- By xprint.py, out of the translation's own print. Lean checks it.
import Derived.Test.YthkpnnbjcendcaaX0Qc
import Derived.Test.YthkpnnbjcendcaaX72Qc
namespace Go.Proofs.Ythkpnnbjcendcaa.X
open Go.RowKit Go.Proofs.YthkpnnbjcendcaaW.PrintWords Go.Proofs.YthkpnnbjcendcaaW.PrintLast Go.Proofs.YthkpnnbjcendcaaW.PrintMore
attribute [local go_sem] max2_int min2_int max_two min_two max_three min_three max_four min_four   -- for this text's walks alone
set_option linter.unusedVariables false
set_option linter.unusedSimpArgs false

/-! ### block_Cut: function 51 -/
def block_Cut.l0 : Nat → Int → List (S52) → Int → List (S109) → Option ((List (S109)))
  | 0, _, _, _, _ => none
  | k + 1, x0, x1, x2, x7 => if (x1.length : Int) > 0 then (if 0 ≤ (mn x2 (x1.length : Int)) then (if (mn x2 (x1.length : Int)) ≤ (x1.length : Int) then ((api_Point_84.f (x1.take ((mn x2 (x1.length : Int)) : Int).toNat)).bind fun t254 => (if x7.length < 4398046511104 then (block_Cut.l0 k x0 (x1.drop ((mn x2 (x1.length : Int)) : Int).toNat) x2 (x7 ++ [(⟨x0, t254⟩ : S109)])) else (none))) else (none)) else (none)) else (some x7)
def block_Cut.f (k : Nat) (a0 : Int) (l1 : List (S52)) (a2 : Int) : Option ((List (S109))) := block_Cut.l0 k a0 l1 (mx a2 1) ([] : List (S109))
theorem block_Cut.mono_l : ∀ k, (∀ y0 y1 y2 y3, LeO (block_Cut.l0 k y0 y1 y2 y3) (block_Cut.l0 (k + 1) y0 y1 y2 y3))
  | 0 => fun _ _ _ _ r h => by simp [block_Cut.l0] at h
  | k + 1 => by
    have ih0 := block_Cut.mono_l k
    · intro y0 y1 y2 y3
      unfold block_Cut.l0
      repeat' first
      | (with_reducible exact ih0 _ _ _ _)
      | (with_reducible exact LeO.refl _)
      | (with_reducible exact LeO.none _)
      | (with_reducible refine LeO.ite ?_ ?_)
      | (with_reducible refine LeO.bind ?_ (fun _ => ?_))
      | exact ih0 _ _ _ _
      | exact LeO.none _
      | refine LeO.ite ?_ ?_
      | refine LeO.bind ?_ (fun _ => ?_)
theorem block_Cut.mono : ∀ a0 a1 a2 k, LeO (block_Cut.f k a0 a1 a2) (block_Cut.f (k + 1) a0 a1 a2) := by
  intro a0 a1 a2 k
  have ih0 := block_Cut.mono_l k
  unfold block_Cut.f
  repeat' first
      | (with_reducible exact ih0 _ _ _ _)
      | (with_reducible exact LeO.refl _)
      | (with_reducible exact LeO.none _)
      | (with_reducible refine LeO.ite ?_ ?_)
      | (with_reducible refine LeO.bind ?_ (fun _ => ?_))
      | exact ih0 _ _ _ _
      | exact LeO.none _
      | refine LeO.ite ?_ ?_
      | refine LeO.bind ?_ (fun _ => ?_)
set_option maxHeartbeats 8000000 in
set_option maxRecDepth 100000 in
theorem block_Cut.calls (k : Nat) (a0 : Int) (P1_ : Nat → Prop) (A1 : Option Addr) (c1 : Nat) (l1 : List (S52)) (a2 : Int) (r : List (S109)) (w : World) (hs1 : Kd.V k52 52 w w.heap.size (fun k_ => P1_ k_) (.slice A1 l1.length c1) l1) (h : block_Cut.f k a0 l1 a2 = some r) :
    Calls Try.prog 51 #[.int .i64 a0, .slice A1 l1.length c1, .int .i64 a2] w fun e w' => ∃ v0_ : Value, e = .returned (v0_) ∧ Kd.S k109 109 w' w.heap.size (fun k_ => (w.heap.size ≤ k_)) v0_ r ∧ Below w.heap.size w w' := by
  have hu109 := Try.underlying109
  have HO1 := Aside0.mk (show Kd.V k52 52 w w.heap.size (fun k_ => (P1_ k_ ∨ w.heap.size ≤ k_)) (.slice A1 l1.length c1) l1 from Kd.V_mono hs1 (fun k_ hk => .inl hk))
  have HB := Aside0.mk (Below.refl w.heap.size w)
  have H : (block_Cut.l0 k a0 l1 (mx a2 1) ([] : List (S109))) = some r := h
  clear h
  obtain ⟨ji4, hji4⟩ : ∃ j_ : Int, (mx a2 1) = j_ := ⟨_, rfl⟩
  replace H : (block_Cut.l0 k a0 l1 ji4 ([] : List (S109))) = some r := by first | (rw [hji4] at H; exact H) | (simp only [hji4] at H ⊢; exact H)
  (try (have hji4l : 1 ≤ ji4 := by (rw [← hji4]; unfold mx; (repeat' split) <;> omega)))
  (try (have hji4m : 0 ≤ ji4 := by omega))
  have hji4_ : (if a2 < 1 then 1 else a2) = ji4 := hji4
  have H' := Aside0.mk H
  clear H
  go_enter Try.func51, Try.ntmps51
  go_wp2
  go_loopg [1, 7] k (fun kq v1 v7 w' => ∃ (x1_1 : List (S52)) (x7_1 : List (S109)), Aside0 (block_Cut.l0 kq a0 x1_1 ji4 x7_1 = some r) ∧ Aside0 (kq ≤ k) ∧ Aside0 (Kd.V k52 52 w' w.heap.size (fun k_ => (P1_ k_ ∨ w.heap.size ≤ k_) ∧ some k_ ≠ (v7 : Value).ownBlock) v1 x1_1) ∧ Aside0 (Kd.S k109 109 w' w.heap.size (fun k_ => (w.heap.size ≤ k_)) v7 x7_1) ∧ Aside0 (Below w.heap.size w w'))
  case atStart => exact ⟨(l1), (([] : List (S109))), H', ⟨Nat.le_refl _⟩, ⟨by (with_reducible repeat (first | apply Kd.V_alloc | apply Kd.V_drewN | apply Kd.V_drew)); exact Kd.V_mono HO1.out (fun _ hk => ⟨hk, (by simp [Value.ownBlock])⟩)⟩, ⟨by first | exact Kd.S_nil _ _ _ _ _ | exact Kd.N_nil _ _ _ _ _ | exact Kd.V_nil _ _ _ _ _ | exact Kd.Q_nil _ _ _ _ _ | exact Kd.R_nil _ _ _ _ _⟩, ⟨by repeat (first | (with_reducible first | exact HB.out | apply below_alloc | apply pw_below_drewN | apply below_drew1) | exact HB.out)⟩⟩
  case round =>
    clear H'
    try clear c1
    try clear p2
    obtain ⟨x1_1, x7_1, HA, HK1, HO_1, HO_7, HB⟩ := hrel
    cases gk with
    | zero => exact absurd HA.out (by simp [block_Cut.l0])
    | succ k1 =>
      have H := HA.out
      clear HA
      simp only [block_Cut.l0] at H
      by_cases c5 : (x1_1.length : Int) > 0
      · rw [if_pos c5] at H
        have c5b0 : decide (0 < (x1_1.length : Int)) = true := decide_eq_true c5
        have c5b1 : decide (0 < x1_1.length) = true := decide_eq_true (by omega)
        clear c5
        obtain ⟨ji6, hji6⟩ : ∃ j_ : Int, (mn ji4 (x1_1.length : Int)) = j_ := ⟨_, rfl⟩
        replace H : (if 0 ≤ (ji6) then (if (ji6) ≤ (x1_1.length : Int) then ((api_Point_84.f (x1_1.take ((ji6) : Int).toNat)).bind fun t254 => (if x7_1.length < 4398046511104 then (block_Cut.l0 k1 a0 (x1_1.drop ((ji6) : Int).toNat) ji4 (x7_1 ++ [(⟨a0, t254⟩ : S109)])) else (none))) else (none)) else (none)) = some r := by first | (rw [hji6] at H; exact H) | (simp only [hji6] at H ⊢; exact H)
        have hji6_ : (if (x1_1.length : Int) < ji4 then (x1_1.length : Int) else ji4) = ji6 := hji6
        by_cases c7 : 0 ≤ (ji6)
        · rw [if_pos c7] at H
          have c7b0 := eq_true c7
          have c7b1 : decide (0 ≤ (ji6)) = true := decide_eq_true c7
          clear c7
          by_cases c8 : (ji6) ≤ (x1_1.length : Int)
          · rw [if_pos c8] at H
            have c8b0 := eq_true c8
            have c8b1 : decide ((ji6) ≤ (x1_1.length : Int)) = true := decide_eq_true c8
            clear c8
            obtain ⟨y249, hy249⟩ : ∃ y_ : List (S52), y_ = (x1_1.take ((ji6) : Int).toNat) := ⟨_, rfl⟩
            replace H : ((api_Point_84.f y249).bind fun t254 => (if x7_1.length < 4398046511104 then (block_Cut.l0 k1 a0 (x1_1.drop ((ji6) : Int).toNat) ji4 (x7_1 ++ [(⟨a0, t254⟩ : S109)])) else (none))) = some r := by first | (rw [hy249]; with_reducible exact H) | (have H2_ := (Option.bind_some _ _).symm.trans H; rw [hy249]; with_reducible exact H2_) | (have H2_ := (Option.bind_some _ _).symm.trans H; with_reducible exact H2_) | with_reducible exact H | (rw [hy249]; exact H) | exact H
            have Ny249 := Aside0.mk hy249
            clear hy249
            replace H := Option.bind_eq_some_iff.mp H
            obtain ⟨t254, A90, H⟩ := H
            replace H : (if x7_1.length < 4398046511104 then (block_Cut.l0 k1 a0 (x1_1.drop ((ji6) : Int).toNat) ji4 (x7_1 ++ [(⟨a0, t254⟩ : S109)])) else (none)) = some r := H
            have A9 := Aside0.mk A90
            clear A90
            by_cases c10 : x7_1.length < 4398046511104
            · rw [if_pos c10] at H
              have LMc10 := Aside0.mk c10
              clear c10
              obtain ⟨y257, hy257⟩ : ∃ y_ : List (S109), y_ = (x7_1 ++ [(⟨a0, t254⟩ : S109)]) := ⟨_, rfl⟩
              replace H : (block_Cut.l0 k1 a0 (x1_1.drop ((ji6) : Int).toNat) ji4 y257) = some r := by first | (rw [hy257]; with_reducible exact H) | (have H2_ := (Option.bind_some _ _).symm.trans H; rw [hy257]; with_reducible exact H2_) | (have H2_ := (Option.bind_some _ _).symm.trans H; with_reducible exact H2_) | with_reducible exact H | (rw [hy257]; exact H) | exact H
              have Ny257 := Aside0.mk hy257
              clear hy257
              have c11b0 := eq_true (of_decide_eq_true (by first | (with_reducible assumption) | assumption) : 0 ≤ (ji6))
              have c12b0 := eq_true (of_decide_eq_true (by first | (with_reducible assumption) | assumption) : (ji6) ≤ (x1_1.length : Int))
              obtain ⟨y260, hy260⟩ : ∃ y_ : List (S52), y_ = (x1_1.drop ((ji6) : Int).toNat) := ⟨_, rfl⟩
              replace H : (block_Cut.l0 k1 a0 y260 ji4 y257) = some r := by first | (rw [hy260]; with_reducible exact H) | (have H2_ := (Option.bind_some _ _).symm.trans H; rw [hy260]; with_reducible exact H2_) | (have H2_ := (Option.bind_some _ _).symm.trans H; with_reducible exact H2_) | with_reducible exact H | (rw [hy260]; exact H) | exact H
              have Ny260 := Aside0.mk hy260
              clear hy260
              have H' := Aside0.mk H
              clear H
              obtain ⟨Ao13, co13, eo13⟩ := Kd.V_slice HO_1.out
              subst eo13
              have q14 : ((ji6) : Int) ≤ ((x1_1.length : Int) : Int) := of_decide_eq_true (by first | (with_reducible assumption) | assumption)
              obtain ⟨i014, hi014, _, hsz14, _⟩ := info_parts info52
              have hroom14 : x1_1.length ≤ co13 := (Kd.V_reads' HO_1.out).2.1
              have hC14 : Kd.F k52 _ _ Ao13 x1_1.length x1_1 := (Kd.V_at (base := w.heap.size) HO_1.out).2.2
              have hcut14 := cut_to (P := Try.prog) 44 52 .i64 Try.underlying44 hi014 Ao13 x1_1.length co13 (ji6) (of_decide_eq_true (by first | (with_reducible assumption) | assumption)) q14 hroom14
              have hr14 := Kd.F_take (m := ((ji6) : Int).toNat) hC14 (by omega)
              have hy14 : y249.length = ((ji6) : Int).toNat := (by rw [Ny249.out, List.length_take]; omega)
              rw [← Ny249.out] at hr14
              rw [← hy14] at hcut14
              have HO253 := Aside0.mk (show Kd.V k52 52 _ w.heap.size _ (.slice Ao13 y249.length co13) y249 from Kd.V_mk (by omega) hr14)
              have HC253 := Aside0.mk (show y249.length ≤ co13 from by omega)
              clear hr14 hC14 hroom14 hi014 hsz14
              have KY14 := Aside0.mk hy14
              clear hy14
              replace q14 := eq_true q14
              go_wp2_with (first | ((with_reducible refine gate_callee (f := 84) rfl ?_); refine goesL_ (some 23) rfl rfl Try.func84 (by kernel_rfl) rfl #[.slice Ao13 y249.length co13] rfl (by (try simp only [List.map_toArray, List.map_cons, List.map_nil]); first | done | rfl | (simp only [List.length_drop, List.length_take]; rfl)) ?_; (with_reducible refine (api_Point_84.calls _ _ y249 t254 _ ?side1 ?side2 A9.out).mono ?_); (case side1 => repeat (first | exact (Kd.V_reads' HO253.out).2.2 | (with_reducible refine Kd.C_alloc ?_ _) | (with_reducible refine Kd.C_drewN ?_ _) | (with_reducible refine Kd.C_drew ?_))); (case side2 => exact (Kd.V_reads' HO253.out).2.1); rintro e w15 ⟨v255, rfl, ho0, hb⟩; refine ⟨_, rfl, ?_⟩; have n0_ := Aside0.mk (Kd.V_elder' (by (with_reducible repeat (first | apply Kd.V_alloc | apply Kd.V_drewN | apply Kd.V_drew)); exact HO_1.out) (Kd.R_base ho0) hb); have n1_ := Aside0.mk (Kd.S_elder' (by (with_reducible repeat (first | apply Kd.S_alloc | apply Kd.S_drewN | apply Kd.S_drew)); exact HO_7.out) (Kd.R_base ho0) hb); have n2_ := Aside0.mk (Kd.V_elder' (by (with_reducible repeat (first | apply Kd.V_alloc | apply Kd.V_drewN | apply Kd.V_drew)); exact HO253.out) (Kd.R_base ho0) hb); have n3_ := Aside0.mk (Kd.R_lower (Kd.R_newM (M := fun k_ => (w.heap.size ≤ k_)) ho0 (below_size (by repeat (first | (with_reducible first | exact HB.out | apply below_alloc | apply pw_below_drewN | apply below_drew1) | exact HB.out))) (fun k_ h_ => h_)) (below_size (by repeat (first | (with_reducible first | exact HB.out | apply below_alloc | apply pw_below_drewN | apply below_drew1) | exact HB.out)))); have n4_ := Aside0.mk (below_step (by repeat (first | (with_reducible first | exact HB.out | apply below_alloc | apply pw_below_drewN | apply below_drew1) | exact HB.out)) hb); clear HO_1; clear HO_7; clear HO253; clear HB; have HO_1 := n0_; have HO_7 := n1_; have HO253 := n2_; have HO256 := n3_; have HB := n4_; clear n0_ n1_ n2_ n3_ n4_; (try clear hb); (try clear hb2); (try clear hk); (try clear hi); (try clear ho0); obtain ⟨Ao16, co16, eo16⟩ := Kd.R_slice HO256.out; subst eo16) | ((with_reducible refine gate_builtin (b := .append) (xs := #[.tmp 18, .tmp 25]) rfl ?_); at_builtin; refine Kd.S_append k109 (w0 := w) w.heap.size rfl (.tmp 18) (.tmp 25) 66 109 (.agg #[(.int .i64 0), (.slice none 0 0)]) 32 rfl Try.underlying66 info109 rfl (by decide) (by omega) u7 x7_1 (⟨a0, t254⟩ : S109) [.int .i64 a0, .slice Ao16 t254.length co16] (fun k_ => (w.heap.size ≤ k_)) (fun k_ => some k_ = (.slice Ao16 t254.length co16 : Value).ownBlock) rfl rfl ?aP (fun k_ hk_ => ((Kd.R_mono (ok' := fun k_ => ((fun k_ => (w.heap.size ≤ k_))) k_ ∧ some k_ ≠ (u7 : Value).ownBlock) (Kd.R_apart' (HO256.out) (Kd.S_typed HO_7.out) (by decide)) (fun k_ hk => ⟨hk.1.1, hk.2⟩))).1 k_ hk_.symm) ?aF ?aO ?aB ?aS ?aL ?_; (case aP => exact k109_mkM _ _ _ (⟨a0, t254⟩ : S109) (Kd.R_mono (Kd.R_tight rfl (Kd.R_mono (ok' := fun k_ => ((fun k_ => (w.heap.size ≤ k_))) k_ ∧ some k_ ≠ (u7 : Value).ownBlock) (Kd.R_apart' (HO256.out) (Kd.S_typed HO_7.out) (by decide)) (fun k_ hk => ⟨hk.1.1, hk.2⟩))) (fun _ h_ => h_))); (case aB => exact (by repeat (first | (with_reducible first | exact HB.out | apply below_alloc | apply pw_below_drewN | apply below_drew1) | exact HB.out))); (case aF => exact (fun k_ hk => (Nat.le_trans (below_size (by repeat (first | (with_reducible first | exact HB.out | apply below_alloc | apply pw_below_drewN | apply below_drew1) | exact HB.out))) hk))); (case aO => exact (by (with_reducible repeat (first | apply Kd.S_alloc | apply Kd.S_drewN | apply Kd.S_drew)); exact Kd.S_mono HO_7.out (fun k_ hk => ⟨hk.1, fun e_ => hk.2 e_⟩))); (case aS => exact (below_size (by repeat (first | (with_reducible first | exact HB.out | apply below_alloc | apply pw_below_drewN | apply below_drew1) | exact HB.out)))); (case aL => have := LMc10.out; omega); intro v258 w17 ho hb hg hat; rw [← Ny257.out] at ho; have n0_ := Aside0.mk (Kd.V_afterv (ok := (fun k_ => (P1_ k_ ∨ w.heap.size ≤ k_) ∧ some k_ ≠ (.slice Ao16 t254.length co16 : Value).ownBlock)) (by (with_reducible repeat (first | apply Kd.V_alloc | apply Kd.V_drewN | apply Kd.V_drew)); exact Kd.V_mono HO_1.out (fun _ hk => ⟨⟨hk.1.1, hk.2⟩, hk.1.2⟩)) hg hat); have n1_ := Aside0.mk (Kd.V_afterv (ok := (fun k_ => (P1_ k_ ∨ w.heap.size ≤ k_) ∧ some k_ ≠ (.slice Ao16 t254.length co16 : Value).ownBlock)) (by (with_reducible repeat (first | apply Kd.V_alloc | apply Kd.V_drewN | apply Kd.V_drew)); exact Kd.V_mono HO253.out (fun _ hk => ⟨⟨hk.1.1, hk.2⟩, hk.1.2⟩)) hg hat); have n2_ := Aside0.mk (hb); have n3_ := Aside0.mk (ho); clear HO_1; clear HO253; clear HB; clear HO_7; clear HO256; have HO_1 := n0_; have HO253 := n1_; have HB := n2_; have HO259 := n3_; clear n0_ n1_ n2_ n3_; clear ho hb hg hat; have q18 : ((ji6) : Int) ≤ ((x1_1.length : Int) : Int) := of_decide_eq_true (by first | (with_reducible assumption) | assumption); obtain ⟨i018, hi018, _, hsz18, _⟩ := info_parts info52; have hroom18 : x1_1.length ≤ co13 := (Kd.V_reads' HO_1.out).2.1; have hC18 : Kd.F k52 _ _ Ao13 x1_1.length x1_1 := (Kd.V_at (base := w.heap.size) HO_1.out).2.2; have q018 : (0 : Int) ≤ ((ji6) : Int) := of_decide_eq_true (by first | (with_reducible assumption) | assumption); have hcut18 := cut_from (P := Try.prog) 44 52 .i64 Try.underlying44 hi018 2 hsz18 Ao13 x1_1.length co13 (ji6) q018 q18; have hr18 := Kd.F_cut (m := ((ji6) : Int).toNat) (c := co13) hC18 (by omega) hroom18; obtain ⟨A18, hA18⟩ : ∃ A1, A1 = (if co13 = ((ji6) : Int).toNat then Ao13 else (Ao13 : Option Addr).map (·.add (((ji6) : Int).toNat * 2))) := ⟨_, rfl⟩; obtain ⟨c18, hc18⟩ : ∃ c1, c1 = co13 - ((ji6) : Int).toNat := ⟨_, rfl⟩; have hy18 : y260.length = x1_1.length - ((ji6) : Int).toNat := (by rw [Ny260.out, List.length_drop] <;> omega); rw [show (x1_1).drop ((ji6) : Int).toNat = y260 from Ny260.out.symm] at hr18; replace hr18 : Kd.F k52 _ _ A18 y260.length y260 := (by rw [hA18]; exact hr18); rw [← hy18, ← hA18, ← hc18] at hcut18; have HO264 := Aside0.mk (show Kd.V k52 52 _ w.heap.size _ (.slice A18 y260.length c18) y260 from Kd.V_mk (by rw [hy18, hc18]; exact Nat.sub_le_sub_right hroom18 _) hr18); have HC264 := Aside0.mk (show y260.length ≤ c18 from by rw [hy18, hc18]; exact Nat.sub_le_sub_right hroom18 _); clear hr18 hC18 hroom18 hi018 hsz18 hc18; have KY18 := Aside0.mk hy18; have KA18 := Aside0.mk hA18; clear hy18 hA18; replace q18 := eq_true q18))
              go_roundg k1
              case measure => have := HK1.out; omega
              case rel => exact ⟨(y260), (y257), (by first | exact H' | (simp only [hji4, hji6]; exact H')), ⟨by have := HK1.out; omega⟩, ⟨by (with_reducible repeat (first | apply Kd.V_alloc | apply Kd.V_drewN | apply Kd.V_drew)); exact Kd.V_mono HO264.out (fun _ hk => ⟨hk.1.1, hk.2⟩)⟩, ⟨by (with_reducible repeat (first | apply Kd.S_alloc | apply Kd.S_drewN | apply Kd.S_drew)); exact HO259.out⟩, ⟨by repeat (first | (with_reducible first | exact HB.out | apply below_alloc | apply pw_below_drewN | apply below_drew1) | exact HB.out)⟩⟩
            · rw [if_neg c10] at H
              exact absurd H (by simp)
          · rw [if_neg c8] at H
            exact absurd H (by simp)
        · rw [if_neg c7] at H
          exact absurd H (by simp)
      · rw [if_neg c5] at H
        have c5b0 : decide (0 < (x1_1.length : Int)) = false := decide_eq_false c5
        have c5b1 : decide (0 < x1_1.length) = false := decide_eq_false (by omega)
        clear c5
        obtain rfl := Option.some.inj H
        obtain ⟨Ao19, co19, eo19⟩ := Kd.V_slice HO_1.out
        subst eo19
        go_wp2
        go_ret
        exact ⟨_, by first | rfl | (simp [errW_none, errW_some] <;> rfl) | (simp only [← hji4]; first | rfl | (simp [errW_none, errW_some] <;> rfl)) | (simp [*, errW_none, errW_some] <;> rfl), by (with_reducible repeat (first | apply Kd.S_alloc | apply Kd.S_drewN | apply Kd.S_drew)); exact HO_7.out, by repeat (first | (with_reducible first | exact HB.out | apply below_alloc | apply pw_below_drewN | apply below_drew1) | exact HB.out)⟩

end Go.Proofs.Ythkpnnbjcendcaa.X

