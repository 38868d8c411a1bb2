-- By xprint.py, over the goto as a loop; the goto is walked by Go_.wp_scope_ghost_k. Lean checks it.
import Derived.Test.YthkpnnbjcendcaaX0
import Derived.Test.YthkpnnbjcendcaaGo
namespace Go.Proofs.Ythkpnnbjcendcaa.X
open Go.RowKit Go.Proofs.YthkpnnbjcendcaaW.PrintWords Go.Proofs.YthkpnnbjcendcaaW.PrintLast Go.Proofs.YthkpnnbjcendcaaW.PrintMore
attribute [local go_sem] max2_int min2_int max_two min_two max_three min_three max_four min_four   -- for this text's walks alone
set_option linter.unusedVariables false
set_option linter.unusedSimpArgs false

/-! ### bits_At: function 25 -/
mutual
def bits_At.j0 : Nat → List Int → Int → Int → Bool → Option (Int × Int)
  | 0, _, _, _, _ => none
  | k + 1, x0, x1, x2, x14 => if x14 = true then (some (0, 20)) else (if x1 < 0 then (some (0, 2)) else (if x1 > (wrap64 ((wrap64 (8 * (x0.length : Int))) - x2)) then (some (0, 2)) else (bits_At.l0 k x0 0 x1 x2)))
def bits_At.l0 : Nat → List Int → Int → Int → Int → Option (Int × Int)
  | 0, _, _, _, _ => none
  | k + 1, x0, x8, x9, x10 => if x10 = 0 then (some (x8, 0)) else (if 0 ≤ (wrap64 (Int.tdiv x9 8)) then (if (wrap64 (Int.tdiv x9 8)) < (x0.length : Int) then (if 0 ≤ (wrap64 ((wrap64 (8 - (Int.tmod x9 8))) - (mn (wrap64 (8 - (Int.tmod x9 8))) x10))) then (if 0 ≤ (wrap64 (8 - (mn (wrap64 (8 - (Int.tmod x9 8))) x10))) then (if 0 ≤ (mn (wrap64 (8 - (Int.tmod x9 8))) x10) then (bits_At.l0 k x0 (Go.bits .or .u64 (shl .u64 x8 (mn (wrap64 (8 - (Int.tmod x9 8))) x10)) (IntKind.u64.wrap (Go.bits .and .u8 (shr .u8 (rd x0 (wrap64 (Int.tdiv x9 8))) (wrap64 ((wrap64 (8 - (Int.tmod x9 8))) - (mn (wrap64 (8 - (Int.tmod x9 8))) x10)))) (shr .u8 255 (wrap64 (8 - (mn (wrap64 (8 - (Int.tmod x9 8))) x10))))))) (wrap64 (x9 + (mn (wrap64 (8 - (Int.tmod x9 8))) x10))) (wrap64 (x10 - (mn (wrap64 (8 - (Int.tmod x9 8))) x10)))) else (none)) else (none)) else (none)) else (none)) else (none))
end
def bits_At.f (k : Nat) (l0 : List Int) (a1 : Int) (a2 : Int) : Option (Int × Int) := if a2 < 0 then (bits_At.j0 k l0 a1 a2 true) else (bits_At.j0 k l0 a1 a2 (decide (a2 > 64)))
theorem bits_At.mono_l : ∀ k, (∀ y0 y1 y2 y3, LeO (bits_At.j0 k y0 y1 y2 y3) (bits_At.j0 (k + 1) y0 y1 y2 y3)) ∧ (∀ y0 y1 y2 y3, LeO (bits_At.l0 k y0 y1 y2 y3) (bits_At.l0 (k + 1) y0 y1 y2 y3))
  | 0 => ⟨fun _ _ _ _ r h => by simp [bits_At.j0] at h, fun _ _ _ _ r h => by simp [bits_At.l0] at h⟩
  | k + 1 => by
    obtain ⟨ih0, ih1⟩ := bits_At.mono_l k
    refine ⟨?_, ?_⟩
    · intro y0 y1 y2 y3
      unfold bits_At.j0
      repeat' first
      | (with_reducible exact ih0 _ _ _ _)
      | (with_reducible exact ih1 _ _ _ _)
      | (with_reducible exact LeO.refl _)
      | (with_reducible exact LeO.none _)
      | (with_reducible refine LeO.ite ?_ ?_)
      | (with_reducible refine LeO.bind ?_ (fun _ => ?_))
      | exact ih0 _ _ _ _
      | exact ih1 _ _ _ _
      | exact LeO.none _
      | refine LeO.ite ?_ ?_
      | refine LeO.bind ?_ (fun _ => ?_)
    · intro y0 y1 y2 y3
      unfold bits_At.l0
      repeat' first
      | (with_reducible exact ih0 _ _ _ _)
      | (with_reducible exact ih1 _ _ _ _)
      | (with_reducible exact LeO.refl _)
      | (with_reducible exact LeO.none _)
      | (with_reducible refine LeO.ite ?_ ?_)
      | (with_reducible refine LeO.bind ?_ (fun _ => ?_))
      | exact ih0 _ _ _ _
      | exact ih1 _ _ _ _
      | exact LeO.none _
      | refine LeO.ite ?_ ?_
      | refine LeO.bind ?_ (fun _ => ?_)
theorem bits_At.mono : ∀ a0 a1 a2 k, LeO (bits_At.f k a0 a1 a2) (bits_At.f (k + 1) a0 a1 a2) := by
  intro a0 a1 a2 k
  obtain ⟨ih0, ih1⟩ := bits_At.mono_l k
  unfold bits_At.f
  repeat' first
      | (with_reducible exact ih0 _ _ _ _)
      | (with_reducible exact ih1 _ _ _ _)
      | (with_reducible exact LeO.refl _)
      | (with_reducible exact LeO.none _)
      | (with_reducible refine LeO.ite ?_ ?_)
      | (with_reducible refine LeO.bind ?_ (fun _ => ?_))
      | exact ih0 _ _ _ _
      | exact ih1 _ _ _ _
      | exact LeO.none _
      | refine LeO.ite ?_ ?_
      | refine LeO.bind ?_ (fun _ => ?_)
set_option maxHeartbeats 8000000 in
set_option maxRecDepth 100000 in
theorem bits_At.calls (k : Nat) (A0 : Option Addr) (c0 : Nat) (l0 : List Int) (a1 : Int) (a2 : Int) (r1 : Int) (r2 : Int) (w : World) (hr0 : Kd.C (Kd.int .u8) w A0 l0.length l0) (hc0 : l0.length ≤ c0) (h : bits_At.f k l0 a1 a2 = some (r1, r2)) :
    Calls Try.prog 27 #[.slice A0 l0.length c0, .int .i64 a1, .int .i64 a2] w fun e w' => e = .returned (.tuple #[.int .u64 r1, .int .i64 r2]) ∧ Below w.heap.size w w' := by
  have HR0 := Aside0.mk hr0
  have HC0 := Aside0.mk hc0
  clear hr0 hc0
  have HB := Aside0.mk (Below.refl w.heap.size w)
  have H : (if a2 < 0 then (bits_At.j0 k l0 a1 a2 true) else (bits_At.j0 k l0 a1 a2 (decide (a2 > 64)))) = some (r1, r2) := h
  clear h
  have HC4 := Aside0.mk H
  clear H
  go_enter Try.func27, Try.ntmps27
  go_wp2
  refine Go_.wp_scope_ghost_k 0 (fun kq a_ w_ => ∃ (u3 : Value) (u4 : Value) (u5 : Value) (u6 : Value) (u7 : Value) (u8 : Value) (u9 : Value) (u10 : Value) (u11 : Value) (u12 : Value) (u13 : Value) (u14 : Value) (u15 : Value) (u16 : Value) (u17 : Value) (u18 : Value) (u19 : Value) (u20 : Value) (u21 : Value) (u22 : Value) (u23 : Value) (u24 : Value) (u25 : Value) (u26 : Value) (u27 : Value) (u28 : Value) (u29 : Value) (u30 : Value) (u31 : Value) (u32 : Value) (u33 : Value) (u34 : Value) (u35 : Value) (u36 : Value) (u37 : Value) (u38 : Value) (u39 : Value) (u40 : Value) (u41 : Value) (u42 : Value) (u43 : Value) (u44 : Value) (u45 : Value) (u46 : Value) (u47 : Value) (u48 : Value) (u49 : Value) (u50 : Value) (u51 : Value) (u52 : Value) (u53 : Value) (u54 : Value) (u55 : Value) (u56 : Value) (u57 : Value) (u58 : Value) (u59 : Value) (u60 : Value) (u61 : Value) (u62 : Value) (u63 : Value) (u64 : Value) (u65 : Value) (u66 : Value) (u67 : Value) (u68 : Value), (∃ (x8_2 : Int) (x9_2 : Int) (x10_2 : Int), u8 = .int .u64 x8_2 ∧ u9 = .int .i64 x9_2 ∧ u10 = .int .i64 x10_2 ∧ Aside0 (bits_At.l0 kq l0 x8_2 x9_2 x10_2 = some (r1, r2)) ∧ Aside0 (Below w.heap.size w w_)) ∧ a_ = { tmps := #[.slice A0 l0.length c0, .int .i64 a1, .int .i64 a2, u3, u4, u5, u6, u7, u8, u9, u10, u11, u12, u13, u14, u15, u16, u17, u18, u19, u20, u21, u22, u23, u24, u25, u26, u27, u28, u29, u30, u31, u32, u33, u34, u35, u36, u37, u38, u39, u40, u41, u42, u43, u44, u45, u46, u47, u48, u49, u50, u51, u52, u53, u54, u55, u56, u57, u58, u59, u60, u61, u62, u63, u64, u65, u66, u67, u68], defers := [] }) rfl ?pass ?first
  case pass =>
    clear HC4 HB
    intro gk a_ wr hinv
    obtain ⟨u3, u4, u5, u6, u7, u8, u9, u10, u11, u12, u13, u14, u15, u16, u17, u18, u19, u20, u21, u22, u23, u24, u25, u26, u27, u28, u29, u30, u31, u32, u33, u34, u35, u36, u37, u38, u39, u40, u41, u42, u43, u44, u45, u46, u47, u48, u49, u50, u51, u52, u53, u54, u55, u56, u57, u58, u59, u60, u61, u62, u63, u64, u65, u66, u67, u68, ⟨x8_2, x9_2, x10_2, rfl, rfl, rfl, HA, HB⟩, rfl⟩ := hinv
    intro J K hJ hK
    cases gk with
    | zero => exact absurd HA.out (by simp [bits_At.l0])
    | succ k2 =>
      have H := HA.out
      clear HA
      simp only [bits_At.l0] at H
      by_cases c9 : x10_2 = 0
      · rw [if_pos c9] at H
        have c9b0 : (x10_2 == 0) = true := beq_iff_eq.mpr c9
        have c9b1 : (x10_2 != 0) = false := bne_eq_false_iff_eq.mpr c9
        clear c9
        simp only [Option.some.injEq, Prod.mk.injEq] at H
        obtain ⟨rfl, rfl⟩ := H
        go_wp2
        repeat (go_quiet (fail); try go_wp2)
        (try simp only [Exit.jump]); go_ret2
        exact ⟨by first | rfl | (simp [errW_none, errW_some] <;> rfl) | (simp [*, errW_none, errW_some] <;> rfl), by repeat (first | (with_reducible first | exact HB.out | apply below_alloc | apply pw_below_drewN | apply below_drew1) | exact HB.out)⟩
      · rw [if_neg c9] at H
        have c9b0 : (x10_2 == 0) = false := beq_eq_false_iff_ne.mpr c9
        have c9b1 : (x10_2 != 0) = true := bne_iff_ne.mpr c9
        obtain ⟨ji10, hji10⟩ : ∃ j_ : Int, (mn (wrap64 (8 - (Int.tmod x9_2 8))) x10_2) = j_ := ⟨_, rfl⟩
        replace H : (if 0 ≤ (wrap64 (Int.tdiv x9_2 8)) then (if (wrap64 (Int.tdiv x9_2 8)) < (l0.length : Int) then (if 0 ≤ (wrap64 ((wrap64 (8 - (Int.tmod x9_2 8))) - (ji10))) then (if 0 ≤ (wrap64 (8 - (ji10))) then (if 0 ≤ (ji10) then (bits_At.l0 k2 l0 (Go.bits .or .u64 (shl .u64 x8_2 (ji10)) (IntKind.u64.wrap (Go.bits .and .u8 (shr .u8 (rd l0 (wrap64 (Int.tdiv x9_2 8))) (wrap64 ((wrap64 (8 - (Int.tmod x9_2 8))) - (ji10)))) (shr .u8 255 (wrap64 (8 - (ji10))))))) (wrap64 (x9_2 + (ji10))) (wrap64 (x10_2 - (ji10)))) else (none)) else (none)) else (none)) else (none)) else (none)) = some (r1, r2) := by first | (rw [hji10] at H; exact H) | (simp only [hji10] at H ⊢; exact H)
        have hji10_ : (if x10_2 < (wrap64 (8 - (Int.tmod x9_2 8))) then x10_2 else (wrap64 (8 - (Int.tmod x9_2 8)))) = ji10 := hji10
        obtain ⟨ji11, hji11⟩ : ∃ j_ : Int, (wrap64 (Int.tdiv x9_2 8)) = j_ := ⟨_, rfl⟩
        replace H : (if 0 ≤ (ji11) then (if (ji11) < (l0.length : Int) then (if 0 ≤ (wrap64 ((wrap64 (8 - (Int.tmod x9_2 8))) - (ji10))) then (if 0 ≤ (wrap64 (8 - (ji10))) then (if 0 ≤ (ji10) then (bits_At.l0 k2 l0 (Go.bits .or .u64 (shl .u64 x8_2 (ji10)) (IntKind.u64.wrap (Go.bits .and .u8 (shr .u8 (rd l0 (ji11)) (wrap64 ((wrap64 (8 - (Int.tmod x9_2 8))) - (ji10)))) (shr .u8 255 (wrap64 (8 - (ji10))))))) (wrap64 (x9_2 + (ji10))) (wrap64 (x10_2 - (ji10)))) else (none)) else (none)) else (none)) else (none)) else (none)) = some (r1, r2) := by first | (rw [hji11] at H; exact H) | (simp only [hji11] at H ⊢; exact H)
        have hji11w : (IntKind.i64.wrap (Int.tdiv x9_2 8)) = ji11 := (i64_w _).trans hji11
        by_cases c12 : 0 ≤ (ji11)
        · rw [if_pos c12] at H
          have c12b0 : decide (0 ≤ (ji11)) = true := decide_eq_true c12
          clear c12
          by_cases c13 : (ji11) < (l0.length : Int)
          · rw [if_pos c13] at H
            have c13b0 : decide ((ji11) < (l0.length : Int)) = true := decide_eq_true c13
            clear c13
            obtain ⟨ji14, hji14⟩ : ∃ j_ : Int, (wrap64 ((wrap64 (8 - (Int.tmod x9_2 8))) - (ji10))) = j_ := ⟨_, rfl⟩
            replace H : (if 0 ≤ (ji14) then (if 0 ≤ (wrap64 (8 - (ji10))) then (if 0 ≤ (ji10) then (bits_At.l0 k2 l0 (Go.bits .or .u64 (shl .u64 x8_2 (ji10)) (IntKind.u64.wrap (Go.bits .and .u8 (shr .u8 (rd l0 (ji11)) (ji14)) (shr .u8 255 (wrap64 (8 - (ji10))))))) (wrap64 (x9_2 + (ji10))) (wrap64 (x10_2 - (ji10)))) else (none)) else (none)) else (none)) = some (r1, r2) := by first | (rw [hji14] at H; exact H) | (simp only [hji14] at H ⊢; exact H)
            have hji14w : (IntKind.i64.wrap ((wrap64 (8 - (Int.tmod x9_2 8))) - (ji10))) = ji14 := (i64_w _).trans hji14
            by_cases c15 : 0 ≤ (ji14)
            · rw [if_pos c15] at H
              have c15b0 := eq_true c15
              have c15b1 : decide (0 ≤ (ji14)) = true := decide_eq_true c15
              clear c15
              obtain ⟨ji16, hji16⟩ : ∃ j_ : Int, (shr .u8 (rd l0 (ji11)) (ji14)) = j_ := ⟨_, rfl⟩
              replace H : (if 0 ≤ (wrap64 (8 - (ji10))) then (if 0 ≤ (ji10) then (bits_At.l0 k2 l0 (Go.bits .or .u64 (shl .u64 x8_2 (ji10)) (IntKind.u64.wrap (Go.bits .and .u8 (ji16) (shr .u8 255 (wrap64 (8 - (ji10))))))) (wrap64 (x9_2 + (ji10))) (wrap64 (x10_2 - (ji10)))) else (none)) else (none)) = some (r1, r2) := by first | (rw [hji16] at H; exact H) | (simp only [hji16] at H ⊢; exact H)
              have hji16_ : ((rd l0 (ji11)) / 2 ^ min (ji14).toNat 8) = ji16 := hji16
              have hji16z : (ji14) ≤ 8 → ((rd l0 (ji11)) / 2 ^ (ji14).toNat) = ji16 := shr_small hji16
              obtain ⟨ji17, hji17⟩ : ∃ j_ : Int, (wrap64 (8 - (ji10))) = j_ := ⟨_, rfl⟩
              replace H : (if 0 ≤ (ji17) then (if 0 ≤ (ji10) then (bits_At.l0 k2 l0 (Go.bits .or .u64 (shl .u64 x8_2 (ji10)) (IntKind.u64.wrap (Go.bits .and .u8 (ji16) (shr .u8 255 (ji17))))) (wrap64 (x9_2 + (ji10))) (wrap64 (x10_2 - (ji10)))) else (none)) else (none)) = some (r1, r2) := by first | (rw [hji17] at H; exact H) | (simp only [hji17] at H ⊢; exact H)
              have hji17w : (IntKind.i64.wrap (8 - (ji10))) = ji17 := (i64_w _).trans hji17
              by_cases c18 : 0 ≤ (ji17)
              · rw [if_pos c18] at H
                have c18b0 := eq_true c18
                have c18b1 : decide (0 ≤ (ji17)) = true := decide_eq_true c18
                clear c18
                obtain ⟨ji19, hji19⟩ : ∃ j_ : Int, (shr .u8 255 (ji17)) = j_ := ⟨_, rfl⟩
                replace H : (if 0 ≤ (ji10) then (bits_At.l0 k2 l0 (Go.bits .or .u64 (shl .u64 x8_2 (ji10)) (IntKind.u64.wrap (Go.bits .and .u8 (ji16) (ji19)))) (wrap64 (x9_2 + (ji10))) (wrap64 (x10_2 - (ji10)))) else (none)) = some (r1, r2) := by first | (rw [hji19] at H; exact H) | (simp only [hji19] at H ⊢; exact H)
                have hji19_ : (255 / 2 ^ min (ji17).toNat 8) = ji19 := hji19
                have hji19z : (ji17) ≤ 8 → (255 / 2 ^ (ji17).toNat) = ji19 := shr_small hji19
                by_cases c20 : 0 ≤ (ji10)
                · rw [if_pos c20] at H
                  have c20b0 := eq_true c20
                  have c20b1 : decide (0 ≤ (ji10)) = true := decide_eq_true c20
                  clear c20
                  obtain ⟨ji21, hji21⟩ : ∃ j_ : Int, (shl .u64 x8_2 (ji10)) = j_ := ⟨_, rfl⟩
                  replace H : (bits_At.l0 k2 l0 (Go.bits .or .u64 (ji21) (IntKind.u64.wrap (Go.bits .and .u8 (ji16) (ji19)))) (wrap64 (x9_2 + (ji10))) (wrap64 (x10_2 - (ji10)))) = some (r1, r2) := by first | (rw [hji21] at H; exact H) | (simp only [hji21] at H ⊢; exact H)
                  have hji21_ : (IntKind.u64.wrap (x8_2 * 2 ^ min (ji10).toNat 64)) = ji21 := hji21
                  have hji21z : (ji10) ≤ 64 → (IntKind.u64.wrap (x8_2 * 2 ^ (ji10).toNat)) = ji21 := shl_small hji21
                  have H' := Aside0.mk H
                  clear H
                  have p107 : 0 ≤ ((ji11) : Int) := of_decide_eq_true (by first | (with_reducible assumption) | assumption)
                  have q107 : (ji11) < (l0.length : Int) := of_decide_eq_true (by first | (with_reducible assumption) | assumption)
                  obtain ⟨ad107, e107, hx107_0⟩ := Kd.at_int HR0.out (ji11) p107 q107
                  cases e107
                  replace hx107_0 := (HB.out.cell (World.block_lt_of_cell? w _ hx107_0)).trans hx107_0
                  replace p107 := eq_true p107
                  replace q107 := eq_true q107
                  go_wp2
                  repeat (go_quiet (fail); try go_wp2)
                  go_step3
                  refine ⟨rfl, hK _ _ (Handed.intro k2 ?measure (hJ _ _ _ ?_))⟩
                  rotate_left
                  (repeat apply Exists.intro)
                  refine ⟨?rel, rfl⟩
                  case measure => omega
                  case rel => exact ⟨(Go.bits .or .u64 (ji21) (IntKind.u64.wrap (Go.bits .and .u8 (ji16) (ji19)))), (wrap64 (x9_2 + (ji10))), (wrap64 (x10_2 - (ji10))), (by first | rfl | (simp; done) | (simp only [← hji16, ← hji19, ← hji21] <;> (first | rfl | simp)) | (simp [*]; done) | (simp <;> grind)), (by first | rfl | (simp; done) | (simp only [← hji10] <;> (first | rfl | simp)) | (simp [*]; done) | (simp <;> grind)), (by first | rfl | (simp; done) | (simp only [← hji10] <;> (first | rfl | simp)) | (simp [*]; done) | (simp <;> grind)), (by first | exact H' | (simp only [hji10, hji11, hji14, hji16, hji17, hji19, hji21]; exact H')), ⟨by repeat (first | (with_reducible first | exact HB.out | apply below_alloc | apply pw_below_drewN | apply below_drew1) | exact HB.out)⟩⟩
                · rw [if_neg c20] at H
                  exact absurd H (by simp)
              · rw [if_neg c18] at H
                exact absurd H (by simp)
            · rw [if_neg c15] at H
              exact absurd H (by simp)
          · rw [if_neg c13] at H
            exact absurd H (by simp)
        · rw [if_neg c12] at H
          exact absurd H (by simp)

  case first =>
    intro F hL
    go_upto_region 1 with (fail)
    repeat (go_quiet (fail); go_upto_region 1 with (fail))
    go_cut [14] (fun v14 wc => ∃ (kq : Nat) (x14_3 : Bool), v14 = .bool x14_3 ∧ Aside0 (bits_At.j0 kq l0 a1 a2 x14_3 = some (r1, r2)) ∧ Aside0 (kq ≤ k) ∧ Aside0 (Below w.heap.size w wc))
    case first =>
      have H := HC4.out
      clear HC4
      by_cases c5 : a2 < 0
      · rw [if_pos c5] at H
        have c5b0 : decide (a2 < 0) = true := decide_eq_true c5
        clear c5
        (first | rw [c5b0] | (simp only [i64_w, i32_w]; rw [c5b0]) | skip)
        have H' := Aside0.mk H
        clear H
        go_wp2
        repeat (go_quiet (fail); try go_wp2)
        go_meet
        case rel => exact ⟨_, (true), (by first | rfl | (simp; done) | (simp [*]; done) | (simp <;> grind)), H', ⟨by first | omega | exact Nat.le_refl _⟩, ⟨by repeat (first | (with_reducible first | exact HB.out | apply below_alloc | apply pw_below_drewN | apply below_drew1) | exact HB.out)⟩⟩
      · rw [if_neg c5] at H
        have c5b0 : decide (a2 < 0) = false := decide_eq_false c5
        clear c5
        (first | rw [c5b0] | (simp only [i64_w, i32_w]; rw [c5b0]) | skip)
        have H' := Aside0.mk H
        clear H
        go_wp2
        repeat (go_quiet (fail); try go_wp2)
        go_meet
        case rel => exact ⟨_, (decide (a2 > 64)), (by first | rfl | (simp; done) | (simp [*]; done) | (simp <;> grind)), H', ⟨by first | omega | exact Nat.le_refl _⟩, ⟨by repeat (first | (with_reducible first | exact HB.out | apply below_alloc | apply pw_below_drewN | apply below_drew1) | exact HB.out)⟩⟩
    case rest =>
      clear HC4
      try clear c2
      try clear p2
      try clear c5
      try clear c5b0
      obtain ⟨kq, x14_3, rfl, HA, HJ3, HB⟩ := hcut
      cases kq with
      | zero => exact absurd HA.out (by simp [bits_At.j0])
      | succ kj3 =>
        have H := HA.out
        clear HA
        simp only [bits_At.j0] at H
        by_cases c6 : x14_3 = true
        · subst c6
          have H1 : (some (0, 20)) = some (r1, r2) := by rw [if_pos rfl] at H; exact H
          clear H
          have H := H1
          clear H1
          simp only [Option.some.injEq, Prod.mk.injEq] at H
          obtain ⟨rfl, rfl⟩ := H
          go_wp2
          repeat (go_quiet (fail); try go_wp2)
          (try simp only [Exit.jump]); go_ret2
          exact ⟨by first | rfl | (simp [errW_none, errW_some] <;> rfl) | (simp [*, errW_none, errW_some] <;> rfl), by repeat (first | (with_reducible first | exact HB.out | apply below_alloc | apply pw_below_drewN | apply below_drew1) | exact HB.out)⟩
        · replace c6 := Bool.eq_false_iff.mpr c6
          subst c6
          have H1 : (if a1 < 0 then (some (0, 2)) else (if a1 > (wrap64 ((wrap64 (8 * (l0.length : Int))) - a2)) then (some (0, 2)) else (bits_At.l0 kj3 l0 0 a1 a2))) = some (r1, r2) := by rw [if_neg (show ¬ (false = true) by decide)] at H; exact H
          clear H
          have H := H1
          clear H1
          by_cases c7 : a1 < 0
          · rw [if_pos c7] at H
            have c7b0 : decide (a1 < 0) = true := decide_eq_true c7
            clear c7
            simp only [Option.some.injEq, Prod.mk.injEq] at H
            obtain ⟨rfl, rfl⟩ := H
            go_wp2
            repeat (go_quiet (fail); try go_wp2)
            (try simp only [Exit.jump]); go_ret2
            exact ⟨by first | rfl | (simp [errW_none, errW_some] <;> rfl) | (simp [*, errW_none, errW_some] <;> rfl), by repeat (first | (with_reducible first | exact HB.out | apply below_alloc | apply pw_below_drewN | apply below_drew1) | exact HB.out)⟩
          · rw [if_neg c7] at H
            have c7b0 : decide (a1 < 0) = false := decide_eq_false c7
            clear c7
            by_cases c8 : a1 > (wrap64 ((wrap64 (8 * (l0.length : Int))) - a2))
            · rw [if_pos c8] at H
              have c8b0 : decide ((wrap64 ((wrap64 (8 * (l0.length : Int))) - a2)) < a1) = true := decide_eq_true c8
              clear c8
              simp only [Option.some.injEq, Prod.mk.injEq] at H
              obtain ⟨rfl, rfl⟩ := H
              go_wp2
              repeat (go_quiet (fail); try go_wp2)
              (try simp only [Exit.jump]); go_ret2
              exact ⟨by first | rfl | (simp [errW_none, errW_some] <;> rfl) | (simp [*, errW_none, errW_some] <;> rfl), by repeat (first | (with_reducible first | exact HB.out | apply below_alloc | apply pw_below_drewN | apply below_drew1) | exact HB.out)⟩
            · rw [if_neg c8] at H
              have c8b0 : decide ((wrap64 ((wrap64 (8 * (l0.length : Int))) - a2)) < a1) = false := decide_eq_false c8
              clear c8
              have H' := Aside0.mk H
              clear H
              go_wp2
              repeat (go_quiet (fail); try go_wp2)
              go_step3
              go_step
              go_step
              refine hL kj3 _ _ ?_
              (repeat apply Exists.intro)
              refine ⟨?_, rfl⟩
              exact ⟨(0), (a1), (a2), rfl, rfl, rfl, H', ⟨by repeat (first | (with_reducible first | exact HB.out | apply below_alloc | apply pw_below_drewN | apply below_drew1) | exact HB.out)⟩⟩
end Go.Proofs.Ythkpnnbjcendcaa.X
