-- By xprint.py, out of the translation's own print. Lean checks it.
import Derived.Test.YtckcplmjnpgegaaX0
import Derived.Test.YtckcplmjnpgegaaX3
import Derived.Test.YtckcplmjnpgegaaX4
import Derived.Test.YtckcplmjnpgegaaX5
namespace Go.Proofs.Ytckcplmjnpgegaa.X
open Go.RowKit Go.Proofs.YtckcplmjnpgegaaW.PrintWords Go.Proofs.YtckcplmjnpgegaaW.PrintLast Go.Proofs.YtckcplmjnpgegaaW.PrintMore
attribute [local go_sem] max2_int min2_int max_two min_two max_three min_three max_four min_four   -- for this text's walks alone
set_option linter.unusedVariables false
set_option linter.unusedSimpArgs false

/-! ### marigraphlaw09_BlockSpan: function 4 -/
mutual
def marigraphlaw09_BlockSpan.j0 : Nat → Bool → List (S33) → Int → Int → Bool → Option (Bool)
  | 0, _, _, _, _, _ => none
  | k + 1, x7, x8, x9, x10, x58 => if x58 = true then (some false) else (marigraphlaw09_BlockSpan.l0 k x7 x9 x10 x8 (x8.length : Int) 0)
def marigraphlaw09_BlockSpan.l0 : Nat → Bool → Int → Int → List (S33) → Int → Int → Option (Bool)
  | 0, _, _, _, _, _, _ => none
  | k + 1, x7, x9, x10, x59, x60, x61 => if x61 < x60 then (if 0 ≤ x61 then (if x61 < (x59.length : Int) then (if ((rd_T33 x59 x61).f0) < x9 then (some false) else (if ((rd_T33 x59 x61).f0) > x10 then (some false) else (marigraphlaw09_BlockSpan.l0 k x7 x9 x10 x59 x60 (wrap64 (x61 + 1))))) else (none)) else (none)) else (some x7)
end
def marigraphlaw09_BlockSpan.f (k : Nat) (l0 : List (S33)) (a1 : Int) (a2 : Int) : Option (Bool) := (marigraphlaw09_shown.f k).bind fun t158 => (if 0 ≤ (mn (l0.length : Int) 1100) then (if (mn (l0.length : Int) 1100) ≤ (l0.length : Int) then ((some (l0.take ((mn (l0.length : Int) 1100) : Int).toNat : List (S33))).bind fun y159 => ((block_Cut.f k 1 y159 a1).bind fun t163 => ((block_Span.f k t163).bind fun bt166 => ((block_Cut.f k 2 y159 a2).bind fun t169 => ((block_Span.f k t169).bind fun bt172 => (if bt166.1 = bt172.1 then (if bt166.2.1 = bt172.2.1 then (if (bt166.2.2 != bt172.2.2) = true then (marigraphlaw09_BlockSpan.j0 k t158 y159 bt166.1 bt166.2.1 true) else (marigraphlaw09_BlockSpan.j0 k t158 y159 bt166.1 bt166.2.1 (bt166.2.2 != (decide ((y159.length : Int) > 0))))) else (marigraphlaw09_BlockSpan.j0 k t158 y159 bt166.1 bt166.2.1 true)) else (marigraphlaw09_BlockSpan.j0 k t158 y159 bt166.1 bt166.2.1 true))))))) else (none)) else (none))
theorem marigraphlaw09_BlockSpan.mono_l : ∀ k, (∀ y0 y1 y2 y3 y4, LeO (marigraphlaw09_BlockSpan.j0 k y0 y1 y2 y3 y4) (marigraphlaw09_BlockSpan.j0 (k + 1) y0 y1 y2 y3 y4)) ∧ (∀ y0 y1 y2 y3 y4 y5, LeO (marigraphlaw09_BlockSpan.l0 k y0 y1 y2 y3 y4 y5) (marigraphlaw09_BlockSpan.l0 (k + 1) y0 y1 y2 y3 y4 y5))
  | 0 => ⟨fun _ _ _ _ _ r h => by simp [marigraphlaw09_BlockSpan.j0] at h, fun _ _ _ _ _ _ r h => by simp [marigraphlaw09_BlockSpan.l0] at h⟩
  | k + 1 => by
    obtain ⟨ih0, ih1⟩ := marigraphlaw09_BlockSpan.mono_l k
    refine ⟨?_, ?_⟩
    · intro y0 y1 y2 y3 y4
      unfold marigraphlaw09_BlockSpan.j0
      repeat' first
      | (with_reducible exact ih0 _ _ _ _ _)
      | (with_reducible exact ih1 _ _ _ _ _ _)
      | (with_reducible exact block_Cut.mono _ _ _ _)
      | (with_reducible exact block_Span.mono _ _)
      | (with_reducible exact marigraphlaw09_shown.mono _)
      | (with_reducible exact LeO.refl _)
      | (with_reducible exact LeO.none _)
      | (with_reducible refine LeO.ite ?_ ?_)
      | (with_reducible refine LeO.bind ?_ (fun _ => ?_))
      | exact ih0 _ _ _ _ _
      | exact ih1 _ _ _ _ _ _
      | exact block_Cut.mono _ _ _ _
      | exact block_Span.mono _ _
      | exact marigraphlaw09_shown.mono _
      | exact LeO.none _
      | refine LeO.ite ?_ ?_
      | refine LeO.bind ?_ (fun _ => ?_)
    · intro y0 y1 y2 y3 y4 y5
      unfold marigraphlaw09_BlockSpan.l0
      repeat' first
      | (with_reducible exact ih0 _ _ _ _ _)
      | (with_reducible exact ih1 _ _ _ _ _ _)
      | (with_reducible exact block_Cut.mono _ _ _ _)
      | (with_reducible exact block_Span.mono _ _)
      | (with_reducible exact marigraphlaw09_shown.mono _)
      | (with_reducible exact LeO.refl _)
      | (with_reducible exact LeO.none _)
      | (with_reducible refine LeO.ite ?_ ?_)
      | (with_reducible refine LeO.bind ?_ (fun _ => ?_))
      | exact ih0 _ _ _ _ _
      | exact ih1 _ _ _ _ _ _
      | exact block_Cut.mono _ _ _ _
      | exact block_Span.mono _ _
      | exact marigraphlaw09_shown.mono _
      | exact LeO.none _
      | refine LeO.ite ?_ ?_
      | refine LeO.bind ?_ (fun _ => ?_)
theorem marigraphlaw09_BlockSpan.mono : ∀ a0 a1 a2 k, LeO (marigraphlaw09_BlockSpan.f k a0 a1 a2) (marigraphlaw09_BlockSpan.f (k + 1) a0 a1 a2) := by
  intro a0 a1 a2 k
  obtain ⟨ih0, ih1⟩ := marigraphlaw09_BlockSpan.mono_l k
  unfold marigraphlaw09_BlockSpan.f
  repeat' first
      | (with_reducible exact ih0 _ _ _ _ _)
      | (with_reducible exact ih1 _ _ _ _ _ _)
      | (with_reducible exact block_Cut.mono _ _ _ _)
      | (with_reducible exact block_Span.mono _ _)
      | (with_reducible exact marigraphlaw09_shown.mono _)
      | (with_reducible exact LeO.refl _)
      | (with_reducible exact LeO.none _)
      | (with_reducible refine LeO.ite ?_ ?_)
      | (with_reducible refine LeO.bind ?_ (fun _ => ?_))
      | exact ih0 _ _ _ _ _
      | exact ih1 _ _ _ _ _ _
      | exact block_Cut.mono _ _ _ _
      | exact block_Span.mono _ _
      | exact marigraphlaw09_shown.mono _
      | exact LeO.none _
      | refine LeO.ite ?_ ?_
      | refine LeO.bind ?_ (fun _ => ?_)
set_option maxHeartbeats 8000000 in
set_option maxRecDepth 100000 in
theorem marigraphlaw09_BlockSpan.calls (k : Nat) (A0 : Option Addr) (c0 : Nat) (l0 : List (S33)) (a1 : Int) (a2 : Int) (r : Bool) (w : World) (hr0 : Kd.C k33 w A0 l0.length l0) (hc0 : l0.length ≤ c0) (h : marigraphlaw09_BlockSpan.f k l0 a1 a2 = some r) :
    Calls Try.prog 4 #[.slice A0 l0.length c0, .int .i64 a1, .int .i64 a2] w fun e w' => e = .returned (.bool r) ∧ Below w.heap.size w w' := by
  have hu33 := Try.underlying33
  have HR0 := Aside0.mk hr0
  have HC0 := Aside0.mk hc0
  clear hr0 hc0
  have HB := Aside0.mk (Below.refl w.heap.size w)
  have H : ((marigraphlaw09_shown.f k).bind fun t158 => (if 0 ≤ (mn (l0.length : Int) 1100) then (if (mn (l0.length : Int) 1100) ≤ (l0.length : Int) then ((some (l0.take ((mn (l0.length : Int) 1100) : Int).toNat : List (S33))).bind fun y159 => ((block_Cut.f k 1 y159 a1).bind fun t163 => ((block_Span.f k t163).bind fun bt166 => ((block_Cut.f k 2 y159 a2).bind fun t169 => ((block_Span.f k t169).bind fun bt172 => (if bt166.1 = bt172.1 then (if bt166.2.1 = bt172.2.1 then (if (bt166.2.2 != bt172.2.2) = true then (marigraphlaw09_BlockSpan.j0 k t158 y159 bt166.1 bt166.2.1 true) else (marigraphlaw09_BlockSpan.j0 k t158 y159 bt166.1 bt166.2.1 (bt166.2.2 != (decide ((y159.length : Int) > 0))))) else (marigraphlaw09_BlockSpan.j0 k t158 y159 bt166.1 bt166.2.1 true)) else (marigraphlaw09_BlockSpan.j0 k t158 y159 bt166.1 bt166.2.1 true))))))) else (none)) else (none))) = some r := h
  clear h
  replace H := Option.bind_eq_some_iff.mp H
  obtain ⟨t158, A40, H⟩ := H
  replace H : (if 0 ≤ (mn (l0.length : Int) 1100) then (if (mn (l0.length : Int) 1100) ≤ (l0.length : Int) then ((some (l0.take ((mn (l0.length : Int) 1100) : Int).toNat : List (S33))).bind fun y159 => ((block_Cut.f k 1 y159 a1).bind fun t163 => ((block_Span.f k t163).bind fun bt166 => ((block_Cut.f k 2 y159 a2).bind fun t169 => ((block_Span.f k t169).bind fun bt172 => (if bt166.1 = bt172.1 then (if bt166.2.1 = bt172.2.1 then (if (bt166.2.2 != bt172.2.2) = true then (marigraphlaw09_BlockSpan.j0 k t158 y159 bt166.1 bt166.2.1 true) else (marigraphlaw09_BlockSpan.j0 k t158 y159 bt166.1 bt166.2.1 (bt166.2.2 != (decide ((y159.length : Int) > 0))))) else (marigraphlaw09_BlockSpan.j0 k t158 y159 bt166.1 bt166.2.1 true)) else (marigraphlaw09_BlockSpan.j0 k t158 y159 bt166.1 bt166.2.1 true))))))) else (none)) else (none)) = some r := H
  have A4 := Aside0.mk A40
  clear A40
  obtain ⟨ji5, hji5⟩ : ∃ j_ : Int, (mn (l0.length : Int) 1100) = j_ := ⟨_, rfl⟩
  replace H : (if 0 ≤ (ji5) then (if (ji5) ≤ (l0.length : Int) then ((some (l0.take ((ji5) : Int).toNat : List (S33))).bind fun y159 => ((block_Cut.f k 1 y159 a1).bind fun t163 => ((block_Span.f k t163).bind fun bt166 => ((block_Cut.f k 2 y159 a2).bind fun t169 => ((block_Span.f k t169).bind fun bt172 => (if bt166.1 = bt172.1 then (if bt166.2.1 = bt172.2.1 then (if (bt166.2.2 != bt172.2.2) = true then (marigraphlaw09_BlockSpan.j0 k t158 y159 bt166.1 bt166.2.1 true) else (marigraphlaw09_BlockSpan.j0 k t158 y159 bt166.1 bt166.2.1 (bt166.2.2 != (decide ((y159.length : Int) > 0))))) else (marigraphlaw09_BlockSpan.j0 k t158 y159 bt166.1 bt166.2.1 true)) else (marigraphlaw09_BlockSpan.j0 k t158 y159 bt166.1 bt166.2.1 true))))))) else (none)) else (none)) = some r := by first | (rw [hji5] at H; exact H) | (simp only [hji5] at H ⊢; exact H)
  (try rw [hji5] at A4)
  (try (have hji5h : ji5 ≤ 1100 := by (rw [← hji5]; unfold mn; (repeat' split) <;> omega)))
  (try (have hji5g : ji5 ≤ 64 := by omega))
  (try (have hji5l : 0 ≤ ji5 := by (rw [← hji5]; unfold mn; (repeat' split) <;> omega)))
  (try (have hji5m : 0 ≤ ji5 := by omega))
  have hji5_ : (if 1100 < (l0.length : Int) then 1100 else (l0.length : Int)) = ji5 := hji5
  by_cases c6 : 0 ≤ (ji5)
  · rw [if_pos c6] at H
    have c6b0 := eq_true c6
    have c6b1 : decide (0 ≤ (ji5)) = true := decide_eq_true c6
    clear c6
    by_cases c7 : (ji5) ≤ (l0.length : Int)
    · rw [if_pos c7] at H
      have c7b0 := eq_true c7
      have c7b1 : decide ((ji5) ≤ (l0.length : Int)) = true := decide_eq_true c7
      clear c7
      obtain ⟨y159, hy159⟩ : ∃ y_ : List (S33), y_ = (l0.take ((ji5) : Int).toNat) := ⟨_, rfl⟩
      replace H : ((block_Cut.f k 1 y159 a1).bind fun t163 => ((block_Span.f k t163).bind fun bt166 => ((block_Cut.f k 2 y159 a2).bind fun t169 => ((block_Span.f k t169).bind fun bt172 => (if bt166.1 = bt172.1 then (if bt166.2.1 = bt172.2.1 then (if (bt166.2.2 != bt172.2.2) = true then (marigraphlaw09_BlockSpan.j0 k t158 y159 bt166.1 bt166.2.1 true) else (marigraphlaw09_BlockSpan.j0 k t158 y159 bt166.1 bt166.2.1 (bt166.2.2 != (decide ((y159.length : Int) > 0))))) else (marigraphlaw09_BlockSpan.j0 k t158 y159 bt166.1 bt166.2.1 true)) else (marigraphlaw09_BlockSpan.j0 k t158 y159 bt166.1 bt166.2.1 true)))))) = some r := by first | (rw [hy159]; with_reducible exact H) | (have H2_ := (Option.bind_some _ _).symm.trans H; rw [hy159]; with_reducible exact H2_) | (have H2_ := (Option.bind_some _ _).symm.trans H; with_reducible exact H2_) | with_reducible exact H | (rw [hy159]; exact H) | exact H
      have Ny159 := Aside0.mk hy159
      clear hy159
      replace H := Option.bind_eq_some_iff.mp H
      obtain ⟨t163, A80, H⟩ := H
      replace H : ((block_Span.f k t163).bind fun bt166 => ((block_Cut.f k 2 y159 a2).bind fun t169 => ((block_Span.f k t169).bind fun bt172 => (if bt166.1 = bt172.1 then (if bt166.2.1 = bt172.2.1 then (if (bt166.2.2 != bt172.2.2) = true then (marigraphlaw09_BlockSpan.j0 k t158 y159 bt166.1 bt166.2.1 true) else (marigraphlaw09_BlockSpan.j0 k t158 y159 bt166.1 bt166.2.1 (bt166.2.2 != (decide ((y159.length : Int) > 0))))) else (marigraphlaw09_BlockSpan.j0 k t158 y159 bt166.1 bt166.2.1 true)) else (marigraphlaw09_BlockSpan.j0 k t158 y159 bt166.1 bt166.2.1 true))))) = some r := H
      have A8 := Aside0.mk A80
      clear A80
      replace H := Option.bind_eq_some_iff.mp H
      obtain ⟨⟨t166, t167, t168⟩, A90, H⟩ := H
      replace H : ((block_Cut.f k 2 y159 a2).bind fun t169 => ((block_Span.f k t169).bind fun bt172 => (if t166 = bt172.1 then (if t167 = bt172.2.1 then (if (t168 != bt172.2.2) = true then (marigraphlaw09_BlockSpan.j0 k t158 y159 t166 t167 true) else (marigraphlaw09_BlockSpan.j0 k t158 y159 t166 t167 (t168 != (decide ((y159.length : Int) > 0))))) else (marigraphlaw09_BlockSpan.j0 k t158 y159 t166 t167 true)) else (marigraphlaw09_BlockSpan.j0 k t158 y159 t166 t167 true)))) = some r := H
      have A9 := Aside0.mk A90
      clear A90
      replace H := Option.bind_eq_some_iff.mp H
      obtain ⟨t169, A100, H⟩ := H
      replace H : ((block_Span.f k t169).bind fun bt172 => (if t166 = bt172.1 then (if t167 = bt172.2.1 then (if (t168 != bt172.2.2) = true then (marigraphlaw09_BlockSpan.j0 k t158 y159 t166 t167 true) else (marigraphlaw09_BlockSpan.j0 k t158 y159 t166 t167 (t168 != (decide ((y159.length : Int) > 0))))) else (marigraphlaw09_BlockSpan.j0 k t158 y159 t166 t167 true)) else (marigraphlaw09_BlockSpan.j0 k t158 y159 t166 t167 true))) = some r := H
      have A10 := Aside0.mk A100
      clear A100
      replace H := Option.bind_eq_some_iff.mp H
      obtain ⟨⟨t172, t173, t174⟩, A110, H⟩ := H
      replace H : (if t166 = t172 then (if t167 = t173 then (if (t168 != t174) = true then (marigraphlaw09_BlockSpan.j0 k t158 y159 t166 t167 true) else (marigraphlaw09_BlockSpan.j0 k t158 y159 t166 t167 (t168 != (decide ((y159.length : Int) > 0))))) else (marigraphlaw09_BlockSpan.j0 k t158 y159 t166 t167 true)) else (marigraphlaw09_BlockSpan.j0 k t158 y159 t166 t167 true)) = some r := H
      have A11 := Aside0.mk A110
      clear A110
      have HC12 := Aside0.mk H
      clear H
      go_enter Try.func4, Try.ntmps4
      go_upto_region 5 with (first | ((with_reducible refine gate_callee (f := 11) rfl ?_); refine goesL_ (some 17) rfl rfl Try.func11 (by kernel_rfl) rfl #[] rfl (by (try simp only [List.map_toArray, List.map_cons, List.map_nil]); first | done | rfl | (simp only [List.length_drop, List.length_take]; rfl)) ?_; (with_reducible refine (marigraphlaw09_shown.calls k  t158 _ A4.out).mono ?_); rintro e w13 ⟨rfl, hb⟩; refine ⟨_, rfl, ?_⟩; have n0_ := Aside0.mk (below_step (by repeat (first | (with_reducible first | exact HB.out | apply below_alloc | apply pw_below_drewN | apply below_drew1) | exact HB.out)) hb); clear HB; have HB := n0_; clear n0_; (try clear hb); (try clear hb2); (try clear hk); (try clear hi); have q14 : ((ji5) : Int) ≤ ((l0.length : Int) : Int) := of_decide_eq_true (by first | (with_reducible assumption) | assumption); obtain ⟨i014, hi014, _, hsz14, _⟩ := info_parts info33; have hroom14 : l0.length ≤ c0 := HC0.out; have hC14 : Kd.C k33 _ A0 l0.length l0 := HR0.out; have hcut14 := cut_to (P := Try.prog) 22 33 .i64 Try.underlying22 hi014 A0 l0.length c0 (ji5) (of_decide_eq_true (by first | (with_reducible assumption) | assumption)) q14 hroom14; have hr14 := Kd.C_take (m := ((ji5) : Int).toNat) hC14 (by omega); have hy14 : y159.length = ((ji5) : Int).toNat := (by rw [Ny159.out, List.length_take]; omega); rw [← Ny159.out] at hr14; rw [← hy14] at hcut14; have HR162 := Aside0.mk hr14; have HC162 := Aside0.mk (show y159.length ≤ c0 from by omega); clear hr14 hC14 hroom14 hi014 hsz14; have KY14 := Aside0.mk hy14; clear hy14; replace q14 := eq_true q14) | ((with_reducible refine gate_callee (f := 12) rfl ?_); refine goesL_ (some 26) rfl rfl Try.func12 (by kernel_rfl) rfl #[.int .i64 1, .slice A0 y159.length c0, .int .i64 a1] rfl (by (try simp only [List.map_toArray, List.map_cons, List.map_nil]); first | done | rfl | (simp only [List.length_drop, List.length_take]; rfl)) ?_; (with_reducible refine (block_Cut.calls k 1 (fun k_ => k_ < w.heap.size) _ _ y159 a1 t163 _ ?side1 A8.out).mono ?_); (case side1 => exact Kd.V_mk HC162.out (Kd.F_below (Kd.C_F k33_heap HR162.out) (by repeat (first | (with_reducible first | exact HB.out | apply below_alloc | apply pw_below_drewN | apply below_drew1) | exact HB.out)))); rintro e w15 ⟨v164, rfl, ho0, hb⟩; refine ⟨_, rfl, ?_⟩; have n0_ := Aside0.mk (Kd.S_lower (Kd.S_mono (ok' := fun k_ => True) ho0 (fun _ hk_ => trivial)) (below_size (by repeat (first | (with_reducible first | exact HB.out | apply below_alloc | apply pw_below_drewN | apply below_drew1) | exact HB.out)))); have n1_ := Aside0.mk (below_step (by repeat (first | (with_reducible first | exact HB.out | apply below_alloc | apply pw_below_drewN | apply below_drew1) | exact HB.out)) hb); clear HB; have HO165 := n0_; have HB := n1_; clear n0_ n1_; (try clear hb); (try clear hb2); (try clear hk); (try clear hi); (try clear ho0); obtain ⟨Ao16, co16, eo16⟩ := Kd.S_slice HO165.out; subst eo16) | ((with_reducible refine gate_callee (f := 14) rfl ?_); refine goesL_ (some 27) rfl rfl Try.func14 (by kernel_rfl) rfl #[.slice Ao16 t163.length co16] rfl (by (try simp only [List.map_toArray, List.map_cons, List.map_nil]); first | done | rfl | (simp only [List.length_drop, List.length_take]; rfl)) ?_; (with_reducible refine (block_Span.calls k _ _ t163 t166 t167 t168 _ ?side1 ?side2 A9.out).mono ?_); (case side1 => repeat (first | exact (Kd.S_reads' HO165.out).2.2 | (with_reducible refine Kd.C_alloc ?_ _) | (with_reducible refine Kd.C_drewN ?_ _) | (with_reducible refine Kd.C_drew ?_))); (case side2 => exact (Kd.S_reads' HO165.out).2.1); rintro e w17 ⟨rfl, hb⟩; refine ⟨_, rfl, ?_⟩; have n0_ := Aside0.mk (Kd.S_below (by (with_reducible repeat (first | apply Kd.S_alloc | apply Kd.S_drewN | apply Kd.S_drew)); exact HO165.out) hb); have n1_ := Aside0.mk (below_step (by repeat (first | (with_reducible first | exact HB.out | apply below_alloc | apply pw_below_drewN | apply below_drew1) | exact HB.out)) hb); clear HO165; clear HB; have HO165 := n0_; have HB := n1_; clear n0_ n1_; (try clear hb); (try clear hb2); (try clear hk); (try clear hi)) | ((with_reducible refine gate_callee (f := 12) rfl ?_); refine goesL_ (some 34) rfl rfl Try.func12 (by kernel_rfl) rfl #[.int .i64 2, .slice A0 y159.length c0, .int .i64 a2] rfl (by (try simp only [List.map_toArray, List.map_cons, List.map_nil]); first | done | rfl | (simp only [List.length_drop, List.length_take]; rfl)) ?_; (with_reducible refine (block_Cut.calls k 2 (fun k_ => k_ < w.heap.size) _ _ y159 a2 t169 _ ?side1 A10.out).mono ?_); (case side1 => exact Kd.V_mk HC162.out (Kd.F_below (Kd.C_F k33_heap HR162.out) (by repeat (first | (with_reducible first | exact HB.out | apply below_alloc | apply pw_below_drewN | apply below_drew1) | exact HB.out)))); rintro e w18 ⟨v170, rfl, ho0, hb⟩; refine ⟨_, rfl, ?_⟩; have n0_ := Aside0.mk (Kd.S_elder' (by (with_reducible repeat (first | apply Kd.S_alloc | apply Kd.S_drewN | apply Kd.S_drew)); exact HO165.out) (Kd.S_base ho0) hb); have n1_ := Aside0.mk (Kd.S_lower (Kd.S_new' (Kd.S_mono (ok' := fun k_ => True) ho0 (fun _ hk_ => trivial)) (Kd.S_lt (by (with_reducible repeat (first | apply Kd.S_alloc | apply Kd.S_drewN | apply Kd.S_drew)); exact HO165.out))) (below_size (by repeat (first | (with_reducible first | exact HB.out | apply below_alloc | apply pw_below_drewN | apply below_drew1) | exact HB.out)))); have n2_ := Aside0.mk (below_step (by repeat (first | (with_reducible first | exact HB.out | apply below_alloc | apply pw_below_drewN | apply below_drew1) | exact HB.out)) hb); clear HO165; clear HB; have HO165 := n0_; have HO171 := n1_; have HB := n2_; clear n0_ n1_ n2_; (try clear hb); (try clear hb2); (try clear hk); (try clear hi); (try clear ho0); obtain ⟨Ao19, co19, eo19⟩ := Kd.S_slice HO171.out; subst eo19) | ((with_reducible refine gate_callee (f := 14) rfl ?_); refine goesL_ (some 35) rfl rfl Try.func14 (by kernel_rfl) rfl #[.slice Ao19 t169.length co19] rfl (by (try simp only [List.map_toArray, List.map_cons, List.map_nil]); first | done | rfl | (simp only [List.length_drop, List.length_take]; rfl)) ?_; (with_reducible refine (block_Span.calls k _ _ t169 t172 t173 t174 _ ?side1 ?side2 A11.out).mono ?_); (case side1 => repeat (first | exact (Kd.S_reads' HO171.out).2.2 | (with_reducible refine Kd.C_alloc ?_ _) | (with_reducible refine Kd.C_drewN ?_ _) | (with_reducible refine Kd.C_drew ?_))); (case side2 => exact (Kd.S_reads' HO171.out).2.1); rintro e w20 ⟨rfl, hb⟩; refine ⟨_, rfl, ?_⟩; have n0_ := Aside0.mk (Kd.S_below (by (with_reducible repeat (first | apply Kd.S_alloc | apply Kd.S_drewN | apply Kd.S_drew)); exact HO165.out) hb); have n1_ := Aside0.mk (Kd.S_below (by (with_reducible repeat (first | apply Kd.S_alloc | apply Kd.S_drewN | apply Kd.S_drew)); exact HO171.out) hb); have n2_ := Aside0.mk (below_step (by repeat (first | (with_reducible first | exact HB.out | apply below_alloc | apply pw_below_drewN | apply below_drew1) | exact HB.out)) hb); clear HO165; clear HO171; clear HB; have HO165 := n0_; have HO171 := n1_; have HB := n2_; clear n0_ n1_ n2_; (try clear hb); (try clear hb2); (try clear hk); (try clear hi)))
      (try simp only [Act.put, List.setIfInBounds_toArray, List.set_cons_zero, List.set_cons_succ])
      go_cut [58] (fun v58 wc => ∃ (kq : Nat) (x58_11 : Bool), v58 = .bool x58_11 ∧ Aside0 (marigraphlaw09_BlockSpan.j0 kq t158 y159 t166 t167 x58_11 = some r) ∧ Aside0 (kq ≤ k) ∧ Aside0 (Below w.heap.size w wc))
      case first =>
        have H := HC12.out
        clear HC12
        by_cases c21 : t166 = t172
        · rw [if_pos c21] at H
          have c21b0 : (t166 == t172) = true := beq_iff_eq.mpr c21
          have c21b1 : (t166 != t172) = false := bne_eq_false_iff_eq.mpr c21
          clear c21
          (first | rw [c21b0] | (simp only [i64_w, i32_w]; rw [c21b0]) | skip)
          by_cases c22 : t167 = t173
          · rw [if_pos c22] at H
            have c22b0 : (t167 == t173) = true := beq_iff_eq.mpr c22
            have c22b1 : (t167 != t173) = false := bne_eq_false_iff_eq.mpr c22
            clear c22
            by_cases c23 : (t168 != t174) = true
            · rw [if_pos c23] at H
              have c23b0 : (t168 != t174) = true := c23
              (try (have c23b1 : decide (t168 = t174) = false := by simpa using c23))
              (try (have c23b2 : (t168 == t174) = false := by simpa using c23))
              (try (have c23b3 : ¬ (t168 = t174) := by simpa using c23))
              clear c23
              have H' := Aside0.mk H
              clear H
              go_wp2
              go_meet
              case rel => exact ⟨_, (true), (by first | rfl | (simp; done) | (simp [*]; done) | (simp <;> grind)), (by first | exact H' | (simp only [hji5]; exact H')), ⟨by first | omega | exact Nat.le_refl _⟩, ⟨by repeat (first | (with_reducible first | exact HB.out | apply below_alloc | apply pw_below_drewN | apply below_drew1) | exact HB.out)⟩⟩
            · rw [if_neg c23] at H
              have c23b0 : (t168 != t174) = false := by simpa using c23
              (try (have c23b1 : decide (t168 = t174) = true := by simpa using c23))
              (try (have c23b2 : (t168 == t174) = true := by simpa using c23))
              clear c23
              have H' := Aside0.mk H
              clear H
              go_wp2
              go_meet
              case rel => exact ⟨_, ((t168 != (decide ((y159.length : Int) > 0)))), (by first | rfl | (simp; done) | (simp [*]; done) | (simp <;> grind)), (by first | exact H' | (simp only [hji5]; exact H')), ⟨by first | omega | exact Nat.le_refl _⟩, ⟨by repeat (first | (with_reducible first | exact HB.out | apply below_alloc | apply pw_below_drewN | apply below_drew1) | exact HB.out)⟩⟩
          · rw [if_neg c22] at H
            have c22b0 : (t167 == t173) = false := beq_eq_false_iff_ne.mpr c22
            have c22b1 : (t167 != t173) = true := bne_iff_ne.mpr c22
            have H' := Aside0.mk H
            clear H
            go_wp2
            go_meet
            case rel => exact ⟨_, (true), (by first | rfl | (simp; done) | (simp [*]; done) | (simp <;> grind)), (by first | exact H' | (simp only [hji5]; exact H')), ⟨by first | omega | exact Nat.le_refl _⟩, ⟨by repeat (first | (with_reducible first | exact HB.out | apply below_alloc | apply pw_below_drewN | apply below_drew1) | exact HB.out)⟩⟩
        · rw [if_neg c21] at H
          have c21b0 : (t166 == t172) = false := beq_eq_false_iff_ne.mpr c21
          have c21b1 : (t166 != t172) = true := bne_iff_ne.mpr c21
          (first | rw [c21b0] | (simp only [i64_w, i32_w]; rw [c21b0]) | skip)
          have H' := Aside0.mk H
          clear H
          go_wp2
          go_meet
          case rel => exact ⟨_, (true), (by first | rfl | (simp; done) | (simp [*]; done) | (simp <;> grind)), (by first | exact H' | (simp only [hji5]; exact H')), ⟨by first | omega | exact Nat.le_refl _⟩, ⟨by repeat (first | (with_reducible first | exact HB.out | apply below_alloc | apply pw_below_drewN | apply below_drew1) | exact HB.out)⟩⟩
      case rest =>
        clear HC12
        try clear c1
        try clear q1
        try clear c2
        try clear p2
        try clear c4
        try clear c6
        try clear c6b0
        try clear c6b1
        try clear c7
        try clear c7b0
        try clear c7b1
        try clear c11
        try clear c12
        try clear c14
        try clear q14
        try clear c21
        try clear c21b0
        try clear c21b1
        try clear c22
        try clear c22b0
        try clear c22b1
        try clear c23
        try clear c23b0
        try clear c23b1
        try clear c23b2
        try clear q14
        obtain ⟨kq, x58_11, rfl, HA, HJ11, HB⟩ := hcut
        cases kq with
        | zero => exact absurd HA.out (by simp [marigraphlaw09_BlockSpan.j0])
        | succ kj11 =>
          have H := HA.out
          clear HA
          simp only [marigraphlaw09_BlockSpan.j0] at H
          by_cases c24 : x58_11 = true
          · subst c24
            have H1 : (some false) = some r := by rw [if_pos rfl] at H; exact H
            clear H
            have H := H1
            clear H1
            obtain rfl := Option.some.inj H
            go_wp2
            go_ret
            exact ⟨by first | rfl | (simp [errW_none, errW_some] <;> rfl) | (simp only [← hji5]; first | rfl | (simp [errW_none, errW_some] <;> rfl)) | (simp [*, errW_none, errW_some] <;> rfl), by repeat (first | (with_reducible first | exact HB.out | apply below_alloc | apply pw_below_drewN | apply below_drew1) | exact HB.out)⟩
          · replace c24 := Bool.eq_false_iff.mpr c24
            subst c24
            have H1 : (marigraphlaw09_BlockSpan.l0 kj11 t158 t166 t167 y159 (y159.length : Int) 0) = some r := by rw [if_neg (show ¬ (false = true) by decide)] at H; exact H
            clear H
            have H := H1
            clear H1
            have H' := Aside0.mk H
            clear H
            go_wp2
            go_loopg [61] kj11 (fun kq v61 w' => ∃ (x61_2 : Int), v61 = .int .i64 x61_2 ∧ Aside0 (marigraphlaw09_BlockSpan.l0 kq t158 t166 t167 y159 (y159.length : Int) x61_2 = some r) ∧ Aside0 (kq ≤ kj11) ∧ Aside0 (Below w.heap.size w w'))
            case atStart => exact ⟨(0), (by first | rfl | (simp; done) | (simp [*]; done) | (simp <;> grind)), H', ⟨Nat.le_refl _⟩, ⟨by repeat (first | (with_reducible first | exact HB.out | apply below_alloc | apply pw_below_drewN | apply below_drew1) | exact HB.out)⟩⟩
            case round =>
              clear H'
              try clear c1
              try clear q1
              try clear c2
              try clear p2
              try clear c4
              try clear c6
              try clear c6b0
              try clear c6b1
              try clear c7
              try clear c7b0
              try clear c7b1
              try clear c11
              try clear c12
              try clear c14
              try clear q14
              try clear c21
              try clear c21b0
              try clear c21b1
              try clear c22
              try clear c22b0
              try clear c22b1
              try clear c23
              try clear c23b0
              try clear c23b1
              try clear c23b2
              try clear c24
              try clear p2
              try clear q1
              try clear q14
              obtain ⟨x61_2, rfl, HA, HK2, HB⟩ := hrel
              cases gk with
              | zero => exact absurd HA.out (by simp [marigraphlaw09_BlockSpan.l0])
              | succ k2 =>
                have H := HA.out
                clear HA
                simp only [marigraphlaw09_BlockSpan.l0] at H
                by_cases c25 : x61_2 < (y159.length : Int)
                · rw [if_pos c25] at H
                  have c25b0 : decide (x61_2 < (y159.length : Int)) = true := decide_eq_true c25
                  clear c25
                  by_cases c26 : 0 ≤ x61_2
                  · rw [if_pos c26] at H
                    have c26b0 : decide (0 ≤ x61_2) = true := decide_eq_true c26
                    clear c26
                    by_cases c27 : x61_2 < (y159.length : Int)
                    · rw [if_pos c27] at H
                      have c27b0 : decide (x61_2 < (y159.length : Int)) = true := decide_eq_true c27
                      clear c27
                      by_cases c28 : ((rd_T33 y159 x61_2).f0) < t166
                      · rw [if_pos c28] at H
                        have c28b0 : decide (((rd_T33 y159 x61_2).f0) < t166) = true := decide_eq_true c28
                        clear c28
                        obtain rfl := Option.some.inj H
                        have p175 : 0 ≤ (x61_2 : Int) := of_decide_eq_true (by first | (with_reducible assumption) | assumption)
                        have q175 : x61_2 < (y159.length : Int) := of_decide_eq_true (by first | (with_reducible assumption) | assumption)
                        obtain ⟨ad175, e175, hx175_0, hx175_1⟩ := at_T33 HR162.out x61_2 p175 q175
                        cases e175
                        replace hx175_0 := (HB.out.cell (World.block_lt_of_cell? w _ hx175_0)).trans hx175_0
                        replace hx175_1 := (HB.out.cell (World.block_lt_of_cell? w _ hx175_1)).trans hx175_1
                        replace p175 := eq_true p175
                        replace q175 := eq_true q175
                        go_wp2_with (first | ((with_reducible refine gate_dst (N := 16) rfl ?_); (try (refine gate_guard (by rfl) ?_; dsimp only)); refine box_event ?hg (N := 16) ?hd (cs := #[.int .i64 0, .int .i64 0]) (t := 33) ?hr ?_; (case hd => rfl); (case hg => rfl); (case hr => first | (go_simp; done) | (go_simp; rfl)); intro gb176 hg w29 hbox hb; have n0_ := Aside0.mk (below_step (by repeat (first | (with_reducible first | exact HB.out | apply below_alloc | apply pw_below_drewN | apply below_drew1) | exact HB.out)) hb); have n1_ := Aside0.mk (hbox); have n2_ := Aside0.mk ((by rw [hg]; exact (below_size (by repeat (first | (with_reducible first | exact HB.out | apply below_alloc | apply pw_below_drewN | apply below_drew1) | exact HB.out))) : w.heap.size ≤ gb176)); have n3_ := Aside0.mk ((by rw [hg]; exact (below_size (by repeat (first | (with_reducible first | exact HB.out | apply below_alloc | apply pw_below_drewN | apply below_drew1) | exact HB.out))) : w.heap.size ≤ gb176)); clear HB; have HB := n0_; have BK176 := n1_; have GW176 := n2_; have GE176 := n3_; clear n0_ n1_ n2_ n3_; clear hb hbox hg; have hcz30_0 : w29.cell? ⟨gb176, 0, none⟩ = some (.int .i64 0) := (blk_cell BK176.out 0).trans rfl; have hcz30_1 : w29.cell? ⟨gb176, 1, none⟩ = some (.int .i64 0) := (blk_cell BK176.out 1).trans rfl; have hfz30_0 := blk_frozen BK176.out 0; have hfz30_1 := blk_frozen BK176.out 1))
                        go_ret
                        exact ⟨by first | rfl | (simp [errW_none, errW_some] <;> rfl) | (simp only [← hji5]; first | rfl | (simp [errW_none, errW_some] <;> rfl)) | (simp [*, errW_none, errW_some] <;> rfl), by repeat (first | (with_reducible first | exact HB.out | apply below_alloc | apply pw_below_drewN | apply below_drew1 | refine below_set ?_ GE176.out) | exact HB.out)⟩
                      · rw [if_neg c28] at H
                        have c28b0 : decide (((rd_T33 y159 x61_2).f0) < t166) = false := decide_eq_false c28
                        clear c28
                        by_cases c31 : ((rd_T33 y159 x61_2).f0) > t167
                        · rw [if_pos c31] at H
                          have c31b0 : decide (t167 < ((rd_T33 y159 x61_2).f0)) = true := decide_eq_true c31
                          clear c31
                          obtain rfl := Option.some.inj H
                          have p175 : 0 ≤ (x61_2 : Int) := of_decide_eq_true (by first | (with_reducible assumption) | assumption)
                          have q175 : x61_2 < (y159.length : Int) := of_decide_eq_true (by first | (with_reducible assumption) | assumption)
                          obtain ⟨ad175, e175, hx175_0, hx175_1⟩ := at_T33 HR162.out x61_2 p175 q175
                          cases e175
                          replace hx175_0 := (HB.out.cell (World.block_lt_of_cell? w _ hx175_0)).trans hx175_0
                          replace hx175_1 := (HB.out.cell (World.block_lt_of_cell? w _ hx175_1)).trans hx175_1
                          replace p175 := eq_true p175
                          replace q175 := eq_true q175
                          go_wp2_with (first | ((with_reducible refine gate_dst (N := 16) rfl ?_); (try (refine gate_guard (by rfl) ?_; dsimp only)); refine box_event ?hg (N := 16) ?hd (cs := #[.int .i64 0, .int .i64 0]) (t := 33) ?hr ?_; (case hd => rfl); (case hg => rfl); (case hr => first | (go_simp; done) | (go_simp; rfl)); intro gb176 hg w32 hbox hb; have n0_ := Aside0.mk (below_step (by repeat (first | (with_reducible first | exact HB.out | apply below_alloc | apply pw_below_drewN | apply below_drew1) | exact HB.out)) hb); have n1_ := Aside0.mk (hbox); have n2_ := Aside0.mk ((by rw [hg]; exact (below_size (by repeat (first | (with_reducible first | exact HB.out | apply below_alloc | apply pw_below_drewN | apply below_drew1) | exact HB.out))) : w.heap.size ≤ gb176)); have n3_ := Aside0.mk ((by rw [hg]; exact (below_size (by repeat (first | (with_reducible first | exact HB.out | apply below_alloc | apply pw_below_drewN | apply below_drew1) | exact HB.out))) : w.heap.size ≤ gb176)); clear HB; have HB := n0_; have BK176 := n1_; have GW176 := n2_; have GE176 := n3_; clear n0_ n1_ n2_ n3_; clear hb hbox hg; have hcz33_0 : w32.cell? ⟨gb176, 0, none⟩ = some (.int .i64 0) := (blk_cell BK176.out 0).trans rfl; have hcz33_1 : w32.cell? ⟨gb176, 1, none⟩ = some (.int .i64 0) := (blk_cell BK176.out 1).trans rfl; have hfz33_0 := blk_frozen BK176.out 0; have hfz33_1 := blk_frozen BK176.out 1))
                          go_ret
                          exact ⟨by first | rfl | (simp [errW_none, errW_some] <;> rfl) | (simp only [← hji5]; first | rfl | (simp [errW_none, errW_some] <;> rfl)) | (simp [*, errW_none, errW_some] <;> rfl), by repeat (first | (with_reducible first | exact HB.out | apply below_alloc | apply pw_below_drewN | apply below_drew1 | refine below_set ?_ GE176.out) | exact HB.out)⟩
                        · rw [if_neg c31] at H
                          have c31b0 : decide (t167 < ((rd_T33 y159 x61_2).f0)) = false := decide_eq_false c31
                          clear c31
                          have H' := Aside0.mk H
                          clear H
                          have p175 : 0 ≤ (x61_2 : Int) := of_decide_eq_true (by first | (with_reducible assumption) | assumption)
                          have q175 : x61_2 < (y159.length : Int) := of_decide_eq_true (by first | (with_reducible assumption) | assumption)
                          obtain ⟨ad175, e175, hx175_0, hx175_1⟩ := at_T33 HR162.out x61_2 p175 q175
                          cases e175
                          replace hx175_0 := (HB.out.cell (World.block_lt_of_cell? w _ hx175_0)).trans hx175_0
                          replace hx175_1 := (HB.out.cell (World.block_lt_of_cell? w _ hx175_1)).trans hx175_1
                          replace p175 := eq_true p175
                          replace q175 := eq_true q175
                          go_wp2_with (first | ((with_reducible refine gate_dst (N := 16) rfl ?_); (try (refine gate_guard (by rfl) ?_; dsimp only)); refine box_event ?hg (N := 16) ?hd (cs := #[.int .i64 0, .int .i64 0]) (t := 33) ?hr ?_; (case hd => rfl); (case hg => rfl); (case hr => first | (go_simp; done) | (go_simp; rfl)); intro gb176 hg w34 hbox hb; have n0_ := Aside0.mk (below_step (by repeat (first | (with_reducible first | exact HB.out | apply below_alloc | apply pw_below_drewN | apply below_drew1) | exact HB.out)) hb); have n1_ := Aside0.mk (hbox); have n2_ := Aside0.mk ((by rw [hg]; exact (below_size (by repeat (first | (with_reducible first | exact HB.out | apply below_alloc | apply pw_below_drewN | apply below_drew1) | exact HB.out))) : w.heap.size ≤ gb176)); have n3_ := Aside0.mk ((by rw [hg]; exact (below_size (by repeat (first | (with_reducible first | exact HB.out | apply below_alloc | apply pw_below_drewN | apply below_drew1) | exact HB.out))) : w.heap.size ≤ gb176)); clear HB; have HB := n0_; have BK176 := n1_; have GW176 := n2_; have GE176 := n3_; clear n0_ n1_ n2_ n3_; clear hb hbox hg; have hcz35_0 : w34.cell? ⟨gb176, 0, none⟩ = some (.int .i64 0) := (blk_cell BK176.out 0).trans rfl; have hcz35_1 : w34.cell? ⟨gb176, 1, none⟩ = some (.int .i64 0) := (blk_cell BK176.out 1).trans rfl; have hfz35_0 := blk_frozen BK176.out 0; have hfz35_1 := blk_frozen BK176.out 1))
                          go_roundg k2
                          case measure => have := HJ11.out; have := HK2.out; omega
                          case rel => exact ⟨(wrap64 (x61_2 + 1)), (by first | rfl | (simp; done) | (simp [*]; done) | (simp <;> grind)), (by first | exact H' | (simp only [hji5]; exact H')), ⟨by have := HJ11.out; have := HK2.out; omega⟩, ⟨by repeat (first | (with_reducible first | exact HB.out | apply below_alloc | apply pw_below_drewN | apply below_drew1 | refine below_set ?_ GE176.out) | exact HB.out)⟩⟩
                    · rw [if_neg c27] at H
                      exact absurd H (by simp)
                  · rw [if_neg c26] at H
                    exact absurd H (by simp)
                · rw [if_neg c25] at H
                  have c25b0 : decide (x61_2 < (y159.length : Int)) = false := decide_eq_false c25
                  clear c25
                  obtain rfl := Option.some.inj H
                  go_wp2
                  go_ret
                  exact ⟨by first | rfl | (simp [errW_none, errW_some] <;> rfl) | (simp only [← hji5]; first | rfl | (simp [errW_none, errW_some] <;> rfl)) | (simp [*, errW_none, errW_some] <;> rfl), by repeat (first | (with_reducible first | exact HB.out | apply below_alloc | apply pw_below_drewN | apply below_drew1) | exact HB.out)⟩
    · rw [if_neg c7] at H
      exact absurd H (by simp)
  · rw [if_neg c6] at H
    exact absurd H (by simp)

end Go.Proofs.Ytckcplmjnpgegaa.X
