/- What the law leans on, part 6: Ga. -/
import Derived.Test.YthkpnnbjcendcaaQd5
set_option linter.unusedVariables false
set_option linter.unusedSimpArgs false
namespace SzQd6
theorem sA_ {α : Type} {l : List α} {i : Nat} {a : α} : l.toArray.setIfInBounds i a = (l.set i a).toArray := List.setIfInBounds_toArray ..
theorem sB_ {α : Type} {x : α} {l : List α} {a : α} : (x :: l).set 0 a = a :: l := rfl
theorem sC_ {α : Type} {x : α} {l : List α} {n : Nat} {a : α} : (x :: l).set (n + 1) a = x :: l.set n a := rfl
end SzQd6
open SzQd6
section
section
namespace Go.Proofs.Ythkpnnbjcendcaa.X
open Go.RowKit Go.Proofs.YthkpnnbjcendcaaW.PrintWords Go.Proofs.YthkpnnbjcendcaaW.PrintLast Go.Proofs.YthkpnnbjcendcaaW.PrintMore
attribute [local go_sem] max2_int min2_int max_two min_two max_three min_three max_four min_four
mutual
def bits_At.j0 : Nat → List Int → Int → Int → Bool → Option (Int × Int)
 | 0, _, _, _, _ => none
 | k + 1, x0, x1, x2, x14 => if x14 = true then (some (0, 20)) else (if x1 < 0 then (some (0, 2)) else (if x1 > (wrap64 ((wrap64 (8 * (x0.length : Int))) - x2)) then (some (0, 2)) else (bits_At.l0 k x0 0 x1 x2)))
def bits_At.l0 : Nat → List Int → Int → Int → Int → Option (Int × Int)
 | 0, _, _, _, _ => none
 | k + 1, x0, x8, x9, x10 => if x10 = 0 then (some (x8, 0)) else (if 0 ≤ (wrap64 (Int.tdiv x9 8)) then (if (wrap64 (Int.tdiv x9 8)) < (x0.length : Int) then (if 0 ≤ (wrap64 ((wrap64 (8 - (Int.tmod x9 8))) - (mn (wrap64 (8 - (Int.tmod x9 8))) x10))) then (if 0 ≤ (wrap64 (8 - (mn (wrap64 (8 - (Int.tmod x9 8))) x10))) then (if 0 ≤ (mn (wrap64 (8 - (Int.tmod x9 8))) x10) then (bits_At.l0 k x0 (Go.bits .or .u64 (shl .u64 x8 (mn (wrap64 (8 - (Int.tmod x9 8))) x10)) (IntKind.u64.wrap (Go.bits .and .u8 (shr .u8 (rd x0 (wrap64 (Int.tdiv x9 8))) (wrap64 ((wrap64 (8 - (Int.tmod x9 8))) - (mn (wrap64 (8 - (Int.tmod x9 8))) x10)))) (shr .u8 255 (wrap64 (8 - (mn (wrap64 (8 - (Int.tmod x9 8))) x10))))))) (wrap64 (x9 + (mn (wrap64 (8 - (Int.tmod x9 8))) x10))) (wrap64 (x10 - (mn (wrap64 (8 - (Int.tmod x9 8))) x10)))) else (none)) else (none)) else (none)) else (none)) else (none))
end
def bits_At.f (k : Nat) (l0 : List Int) (a1 : Int) (a2 : Int) : Option (Int × Int) := if a2 < 0 then (bits_At.j0 k l0 a1 a2 true) else (bits_At.j0 k l0 a1 a2 (decide (a2 > 64)))
theorem bits_At.mono_l : ∀ k, (∀ y0 y1 y2 y3, LeO (bits_At.j0 k y0 y1 y2 y3) (bits_At.j0 (k + 1) y0 y1 y2 y3)) ∧ (∀ y0 y1 y2 y3, LeO (bits_At.l0 k y0 y1 y2 y3) (bits_At.l0 (k + 1) y0 y1 y2 y3))
 | 0 => ⟨fun _ _ _ _ r h => by simp [bits_At.j0] at h, fun _ _ _ _ r h => by simp [bits_At.l0] at h⟩
 | k + 1 => by
  obtain ⟨ih0, ih1⟩ := bits_At.mono_l k
  refine ⟨?_, ?_⟩
  ·intro y0 y1 y2 y3
   unfold bits_At.j0
   repeat' first
   | (with_reducible exact ih0 _ _ _ _)
   | (with_reducible exact ih1 _ _ _ _)
   | (with_reducible exact LeO.refl _)
   | (with_reducible exact LeO.none _)
   | (with_reducible refine LeO.ite ?_ ?_)
   | (with_reducible refine LeO.bind ?_ (fun _ => ?_))
   | exact ih0 _ _ _ _
   | exact ih1 _ _ _ _
   | exact LeO.none _
   | refine LeO.ite ?_ ?_
   | refine LeO.bind ?_ (fun _ => ?_)
  ·intro y0 y1 y2 y3
   unfold bits_At.l0
   repeat' first
   | (with_reducible exact ih0 _ _ _ _)
   | (with_reducible exact ih1 _ _ _ _)
   | (with_reducible exact LeO.refl _)
   | (with_reducible exact LeO.none _)
   | (with_reducible refine LeO.ite ?_ ?_)
   | (with_reducible refine LeO.bind ?_ (fun _ => ?_))
   | exact ih0 _ _ _ _
   | exact ih1 _ _ _ _
   | exact LeO.none _
   | refine LeO.ite ?_ ?_
   | refine LeO.bind ?_ (fun _ => ?_)
set_option maxHeartbeats 8000000 in
set_option maxRecDepth 100000 in
theorem bits_At.calls (k : Nat) (A0 : Option Addr) (c0 : Nat) (l0 : List Int) (a1 : Int) (a2 : Int) (r1 : Int) (r2 : Int) (w : World) (hr0 : Kd.C (Kd.int .u8) w A0 l0.length l0) (hc0 : l0.length ≤ c0) (h : bits_At.f k l0 a1 a2 = some (r1, r2)) :
  Calls Try.prog 27 #[.slice A0 l0.length c0, .int .i64 a1, .int .i64 a2] w fun e w' => e = .returned (.tuple #[.int .u64 r1, .int .i64 r2]) ∧ Below w.heap.size w w' := by
 have HR0 := Aside0.mk hr0
 have HC0 := Aside0.mk hc0
 clear hr0 hc0
 have HB := Aside0.mk (Below.refl w.heap.size w)
 have H : (if a2 < 0 then (bits_At.j0 k l0 a1 a2 true) else (bits_At.j0 k l0 a1 a2 (decide (a2 > 64)))) = some (r1, r2) := h
 clear h
 have HC4 := Aside0.mk H
 clear H
 go_enter Try.func27, Try.ntmps27
 go_wp2
 refine Go_.wp_scope_ghost_k 0 (fun kq a_ w_ => ∃ (u3 : Value) (u4 : Value) (u5 : Value) (u6 : Value) (u7 : Value) (u8 : Value) (u9 : Value) (u10 : Value) (u11 : Value) (u12 : Value) (u13 : Value) (u14 : Value) (u15 : Value) (u16 : Value) (u17 : Value) (u18 : Value) (u19 : Value) (u20 : Value) (u21 : Value) (u22 : Value) (u23 : Value) (u24 : Value) (u25 : Value) (u26 : Value) (u27 : Value) (u28 : Value) (u29 : Value) (u30 : Value) (u31 : Value) (u32 : Value) (u33 : Value) (u34 : Value) (u35 : Value) (u36 : Value) (u37 : Value) (u38 : Value) (u39 : Value) (u40 : Value) (u41 : Value) (u42 : Value) (u43 : Value) (u44 : Value) (u45 : Value) (u46 : Value) (u47 : Value) (u48 : Value) (u49 : Value) (u50 : Value) (u51 : Value) (u52 : Value) (u53 : Value) (u54 : Value) (u55 : Value) (u56 : Value) (u57 : Value) (u58 : Value) (u59 : Value) (u60 : Value) (u61 : Value) (u62 : Value) (u63 : Value) (u64 : Value) (u65 : Value) (u66 : Value) (u67 : Value) (u68 : Value), (∃ (x8_2 : Int) (x9_2 : Int) (x10_2 : Int), u8 = .int .u64 x8_2 ∧ u9 = .int .i64 x9_2 ∧ u10 = .int .i64 x10_2 ∧ Aside0 (bits_At.l0 kq l0 x8_2 x9_2 x10_2 = some (r1, r2)) ∧ Aside0 (Below w.heap.size w w_)) ∧ a_ = { tmps := #[.slice A0 l0.length c0, .int .i64 a1, .int .i64 a2, u3, u4, u5, u6, u7, u8, u9, u10, u11, u12, u13, u14, u15, u16, u17, u18, u19, u20, u21, u22, u23, u24, u25, u26, u27, u28, u29, u30, u31, u32, u33, u34, u35, u36, u37, u38, u39, u40, u41, u42, u43, u44, u45, u46, u47, u48, u49, u50, u51, u52, u53, u54, u55, u56, u57, u58, u59, u60, u61, u62, u63, u64, u65, u66, u67, u68], defers := [] }) rfl ?pass ?first
 case pass =>
  clear HC4 HB
  intro gk a_ wr hinv
  obtain ⟨u3, u4, u5, u6, u7, u8, u9, u10, u11, u12, u13, u14, u15, u16, u17, u18, u19, u20, u21, u22, u23, u24, u25, u26, u27, u28, u29, u30, u31, u32, u33, u34, u35, u36, u37, u38, u39, u40, u41, u42, u43, u44, u45, u46, u47, u48, u49, u50, u51, u52, u53, u54, u55, u56, u57, u58, u59, u60, u61, u62, u63, u64, u65, u66, u67, u68, ⟨x8_2, x9_2, x10_2, rfl, rfl, rfl, HA, HB⟩, rfl⟩ := hinv
  intro J K hJ hK
  cases gk with
  | zero => exact absurd HA.out (by simp [bits_At.l0])
  | succ k2 =>
   have H := HA.out
   clear HA
   simp only [bits_At.l0] at H
   by_cases c9 : x10_2 = 0
   ·rw [if_pos c9] at H
    have c9b0 : (x10_2 == 0) = true := beq_iff_eq.mpr c9
    have c9b1 : (x10_2 != 0) = false := bne_eq_false_iff_eq.mpr c9
    clear c9
    simp only [Option.some.injEq, Prod.mk.injEq] at H
    obtain ⟨rfl, rfl⟩ := H
    go_wp2
    repeat (go_quiet (fail); try go_wp2)
    (try simp only [Exit.jump]); go_ret2
    exact ⟨by first | rfl | (simp [errW_none, errW_some] <;> rfl) | (simp [*, errW_none, errW_some] <;> rfl), by repeat (first | exact HB.out | apply below_alloc | apply pw_below_drewN | apply below_drew1)⟩
   ·rw [if_neg c9] at H
    have c9b0 : (x10_2 == 0) = false := beq_eq_false_iff_ne.mpr c9
    have c9b1 : (x10_2 != 0) = true := bne_iff_ne.mpr c9
    obtain ⟨ji10, hji10⟩ : ∃ j_ : Int, (mn (wrap64 (8 - (Int.tmod x9_2 8))) x10_2) = j_ := ⟨_, rfl⟩
    replace H : (if 0 ≤ (wrap64 (Int.tdiv x9_2 8)) then (if (wrap64 (Int.tdiv x9_2 8)) < (l0.length : Int) then (if 0 ≤ (wrap64 ((wrap64 (8 - (Int.tmod x9_2 8))) - (ji10))) then (if 0 ≤ (wrap64 (8 - (ji10))) then (if 0 ≤ (ji10) then (bits_At.l0 k2 l0 (Go.bits .or .u64 (shl .u64 x8_2 (ji10)) (IntKind.u64.wrap (Go.bits .and .u8 (shr .u8 (rd l0 (wrap64 (Int.tdiv x9_2 8))) (wrap64 ((wrap64 (8 - (Int.tmod x9_2 8))) - (ji10)))) (shr .u8 255 (wrap64 (8 - (ji10))))))) (wrap64 (x9_2 + (ji10))) (wrap64 (x10_2 - (ji10)))) else (none)) else (none)) else (none)) else (none)) else (none)) = some (r1, r2) := by first | (rw [hji10] at H; exact H) | (simp only [hji10] at H ⊢; exact H)
    have hji10_ : (if x10_2 < (wrap64 (8 - (Int.tmod x9_2 8))) then x10_2 else (wrap64 (8 - (Int.tmod x9_2 8)))) = ji10 := hji10
    obtain ⟨ji11, hji11⟩ : ∃ j_ : Int, (wrap64 (Int.tdiv x9_2 8)) = j_ := ⟨_, rfl⟩
    replace H : (if 0 ≤ (ji11) then (if (ji11) < (l0.length : Int) then (if 0 ≤ (wrap64 ((wrap64 (8 - (Int.tmod x9_2 8))) - (ji10))) then (if 0 ≤ (wrap64 (8 - (ji10))) then (if 0 ≤ (ji10) then (bits_At.l0 k2 l0 (Go.bits .or .u64 (shl .u64 x8_2 (ji10)) (IntKind.u64.wrap (Go.bits .and .u8 (shr .u8 (rd l0 (ji11)) (wrap64 ((wrap64 (8 - (Int.tmod x9_2 8))) - (ji10)))) (shr .u8 255 (wrap64 (8 - (ji10))))))) (wrap64 (x9_2 + (ji10))) (wrap64 (x10_2 - (ji10)))) else (none)) else (none)) else (none)) else (none)) else (none)) = some (r1, r2) := by first | (rw [hji11] at H; exact H) | (simp only [hji11] at H ⊢; exact H)
    have hji11w : (IntKind.i64.wrap (Int.tdiv x9_2 8)) = ji11 := (i64_w _).trans hji11
    by_cases c12 : 0 ≤ (ji11)
    ·rw [if_pos c12] at H
     have c12b0 : decide (0 ≤ (ji11)) = true := decide_eq_true c12
     clear c12
     by_cases c13 : (ji11) < (l0.length : Int)
     ·rw [if_pos c13] at H
      have c13b0 : decide ((ji11) < (l0.length : Int)) = true := decide_eq_true c13
      clear c13
      obtain ⟨ji14, hji14⟩ : ∃ j_ : Int, (wrap64 ((wrap64 (8 - (Int.tmod x9_2 8))) - (ji10))) = j_ := ⟨_, rfl⟩
      replace H : (if 0 ≤ (ji14) then (if 0 ≤ (wrap64 (8 - (ji10))) then (if 0 ≤ (ji10) then (bits_At.l0 k2 l0 (Go.bits .or .u64 (shl .u64 x8_2 (ji10)) (IntKind.u64.wrap (Go.bits .and .u8 (shr .u8 (rd l0 (ji11)) (ji14)) (shr .u8 255 (wrap64 (8 - (ji10))))))) (wrap64 (x9_2 + (ji10))) (wrap64 (x10_2 - (ji10)))) else (none)) else (none)) else (none)) = some (r1, r2) := by first | (rw [hji14] at H; exact H) | (simp only [hji14] at H ⊢; exact H)
      have hji14w : (IntKind.i64.wrap ((wrap64 (8 - (Int.tmod x9_2 8))) - (ji10))) = ji14 := (i64_w _).trans hji14
      by_cases c15 : 0 ≤ (ji14)
      ·rw [if_pos c15] at H
       have c15b0 := eq_true c15
       have c15b1 : decide (0 ≤ (ji14)) = true := decide_eq_true c15
       clear c15
       obtain ⟨ji16, hji16⟩ : ∃ j_ : Int, (shr .u8 (rd l0 (ji11)) (ji14)) = j_ := ⟨_, rfl⟩
       replace H : (if 0 ≤ (wrap64 (8 - (ji10))) then (if 0 ≤ (ji10) then (bits_At.l0 k2 l0 (Go.bits .or .u64 (shl .u64 x8_2 (ji10)) (IntKind.u64.wrap (Go.bits .and .u8 (ji16) (shr .u8 255 (wrap64 (8 - (ji10))))))) (wrap64 (x9_2 + (ji10))) (wrap64 (x10_2 - (ji10)))) else (none)) else (none)) = some (r1, r2) := by first | (rw [hji16] at H; exact H) | (simp only [hji16] at H ⊢; exact H)
       have hji16_ : ((rd l0 (ji11)) / 2 ^ min (ji14).toNat 8) = ji16 := hji16
       have hji16z : (ji14) ≤ 8 → ((rd l0 (ji11)) / 2 ^ (ji14).toNat) = ji16 := shr_small hji16
       obtain ⟨ji17, hji17⟩ : ∃ j_ : Int, (wrap64 (8 - (ji10))) = j_ := ⟨_, rfl⟩
       replace H : (if 0 ≤ (ji17) then (if 0 ≤ (ji10) then (bits_At.l0 k2 l0 (Go.bits .or .u64 (shl .u64 x8_2 (ji10)) (IntKind.u64.wrap (Go.bits .and .u8 (ji16) (shr .u8 255 (ji17))))) (wrap64 (x9_2 + (ji10))) (wrap64 (x10_2 - (ji10)))) else (none)) else (none)) = some (r1, r2) := by first | (rw [hji17] at H; exact H) | (simp only [hji17] at H ⊢; exact H)
       have hji17w : (IntKind.i64.wrap (8 - (ji10))) = ji17 := (i64_w _).trans hji17
       by_cases c18 : 0 ≤ (ji17)
       ·rw [if_pos c18] at H
        have c18b0 := eq_true c18
        have c18b1 : decide (0 ≤ (ji17)) = true := decide_eq_true c18
        clear c18
        obtain ⟨ji19, hji19⟩ : ∃ j_ : Int, (shr .u8 255 (ji17)) = j_ := ⟨_, rfl⟩
        replace H : (if 0 ≤ (ji10) then (bits_At.l0 k2 l0 (Go.bits .or .u64 (shl .u64 x8_2 (ji10)) (IntKind.u64.wrap (Go.bits .and .u8 (ji16) (ji19)))) (wrap64 (x9_2 + (ji10))) (wrap64 (x10_2 - (ji10)))) else (none)) = some (r1, r2) := by first | (rw [hji19] at H; exact H) | (simp only [hji19] at H ⊢; exact H)
        have hji19_ : (255 / 2 ^ min (ji17).toNat 8) = ji19 := hji19
        have hji19z : (ji17) ≤ 8 → (255 / 2 ^ (ji17).toNat) = ji19 := shr_small hji19
        by_cases c20 : 0 ≤ (ji10)
        ·rw [if_pos c20] at H
         have c20b0 := eq_true c20
         have c20b1 : decide (0 ≤ (ji10)) = true := decide_eq_true c20
         clear c20
         obtain ⟨ji21, hji21⟩ : ∃ j_ : Int, (shl .u64 x8_2 (ji10)) = j_ := ⟨_, rfl⟩
         replace H : (bits_At.l0 k2 l0 (Go.bits .or .u64 (ji21) (IntKind.u64.wrap (Go.bits .and .u8 (ji16) (ji19)))) (wrap64 (x9_2 + (ji10))) (wrap64 (x10_2 - (ji10)))) = some (r1, r2) := by first | (rw [hji21] at H; exact H) | (simp only [hji21] at H ⊢; exact H)
         have hji21_ : (IntKind.u64.wrap (x8_2 * 2 ^ min (ji10).toNat 64)) = ji21 := hji21
         have hji21z : (ji10) ≤ 64 → (IntKind.u64.wrap (x8_2 * 2 ^ (ji10).toNat)) = ji21 := shl_small hji21
         have H' := Aside0.mk H
         clear H
         have p107 : 0 ≤ ((ji11) : Int) := of_decide_eq_true (by first | (with_reducible assumption) | assumption)
         have q107 : (ji11) < (l0.length : Int) := of_decide_eq_true (by first | (with_reducible assumption) | assumption)
         obtain ⟨ad107, e107, hx107_0⟩ := Kd.at_int HR0.out (ji11) p107 q107
         cases e107
         replace hx107_0 := (HB.out.cell (World.block_lt_of_cell? w _ hx107_0)).trans hx107_0
         replace p107 := eq_true p107
         replace q107 := eq_true q107
         go_wp2
         repeat (go_quiet (fail); try go_wp2)
         go_step3
         refine ⟨rfl, hK _ _ (Handed.intro k2 ?measure (hJ _ _ _ ?_))⟩
         rotate_left
         (repeat apply Exists.intro)
         refine ⟨?rel, rfl⟩
         case measure => omega
         case rel => exact ⟨(Go.bits .or .u64 (ji21) (IntKind.u64.wrap (Go.bits .and .u8 (ji16) (ji19)))), (wrap64 (x9_2 + (ji10))), (wrap64 (x10_2 - (ji10))), (by first | rfl | (simp; done) | (simp only [← hji16, ← hji19, ← hji21] <;> (first | rfl | simp)) | (simp [*]; done) | (simp <;> grind)), (by first | rfl | (simp; done) | (simp only [← hji10] <;> (first | rfl | simp)) | (simp [*]; done) | (simp <;> grind)), (by first | rfl | (simp; done) | (simp only [← hji10] <;> (first | rfl | simp)) | (simp [*]; done) | (simp <;> grind)), (by first | exact H' | (simp only [hji10, hji11, hji14, hji16, hji17, hji19, hji21]; exact H')), ⟨by repeat (first | exact HB.out | apply below_alloc | apply pw_below_drewN | apply below_drew1)⟩⟩
        ·rw [if_neg c20] at H
         exact absurd H (by simp)
       ·rw [if_neg c18] at H
        exact absurd H (by simp)
      ·rw [if_neg c15] at H
       exact absurd H (by simp)
     ·rw [if_neg c13] at H
      exact absurd H (by simp)
    ·rw [if_neg c12] at H
     exact absurd H (by simp)
 case first =>
  intro F hL
  go_upto_region 1 with (fail)
  repeat (go_quiet (fail); go_upto_region 1 with (fail))
  go_cut [14] (fun v14 wc => ∃ (kq : Nat) (x14_3 : Bool), v14 = .bool x14_3 ∧ Aside0 (bits_At.j0 kq l0 a1 a2 x14_3 = some (r1, r2)) ∧ Aside0 (kq ≤ k) ∧ Aside0 (Below w.heap.size w wc))
  case first =>
   have H := HC4.out
   clear HC4
   by_cases c5 : a2 < 0
   ·rw [if_pos c5] at H
    have c5b0 : decide (a2 < 0) = true := decide_eq_true c5
    clear c5
    (first | rw [c5b0] | (simp only [i64_w, i32_w]; rw [c5b0]) | skip)
    have H' := Aside0.mk H
    clear H
    go_wp2
    repeat (go_quiet (fail); try go_wp2)
    go_meet
    case rel => exact ⟨_, (true), (by first | rfl | (simp; done) | (simp [*]; done) | (simp <;> grind)), H', ⟨by first | omega | exact Nat.le_refl _⟩, ⟨by repeat (first | exact HB.out | apply below_alloc | apply pw_below_drewN | apply below_drew1)⟩⟩
   ·rw [if_neg c5] at H
    have c5b0 : decide (a2 < 0) = false := decide_eq_false c5
    clear c5
    (first | rw [c5b0] | (simp only [i64_w, i32_w]; rw [c5b0]) | skip)
    have H' := Aside0.mk H
    clear H
    go_wp2
    repeat (go_quiet (fail); try go_wp2)
    go_meet
    case rel => exact ⟨_, (decide (a2 > 64)), (by first | rfl | (simp; done) | (simp [*]; done) | (simp <;> grind)), H', ⟨by first | omega | exact Nat.le_refl _⟩, ⟨by repeat (first | exact HB.out | apply below_alloc | apply pw_below_drewN | apply below_drew1)⟩⟩
  case rest =>
   clear HC4
   try clear c2
   try clear p2
   try clear c5
   try clear c5b0
   obtain ⟨kq, x14_3, rfl, HA, HJ3, HB⟩ := hcut
   cases kq with
   | zero => exact absurd HA.out (by simp [bits_At.j0])
   | succ kj3 =>
    have H := HA.out
    clear HA
    simp only [bits_At.j0] at H
    by_cases c6 : x14_3 = true
    ·subst c6
     have H1 : (some (0, 20)) = some (r1, r2) := by rw [if_pos rfl] at H; exact H
     clear H
     have H := H1
     clear H1
     simp only [Option.some.injEq, Prod.mk.injEq] at H
     obtain ⟨rfl, rfl⟩ := H
     go_wp2
     repeat (go_quiet (fail); try go_wp2)
     (try simp only [Exit.jump]); go_ret2
     exact ⟨by first | rfl | (simp [errW_none, errW_some] <;> rfl) | (simp [*, errW_none, errW_some] <;> rfl), by repeat (first | exact HB.out | apply below_alloc | apply pw_below_drewN | apply below_drew1)⟩
    ·replace c6 := Bool.eq_false_iff.mpr c6
     subst c6
     have H1 : (if a1 < 0 then (some (0, 2)) else (if a1 > (wrap64 ((wrap64 (8 * (l0.length : Int))) - a2)) then (some (0, 2)) else (bits_At.l0 kj3 l0 0 a1 a2))) = some (r1, r2) := by rw [if_neg (show ¬ (false = true) by decide)] at H; exact H
     clear H
     have H := H1
     clear H1
     by_cases c7 : a1 < 0
     ·rw [if_pos c7] at H
      have c7b0 : decide (a1 < 0) = true := decide_eq_true c7
      clear c7
      simp only [Option.some.injEq, Prod.mk.injEq] at H
      obtain ⟨rfl, rfl⟩ := H
      go_wp2
      repeat (go_quiet (fail); try go_wp2)
      (try simp only [Exit.jump]); go_ret2
      exact ⟨by first | rfl | (simp [errW_none, errW_some] <;> rfl) | (simp [*, errW_none, errW_some] <;> rfl), by repeat (first | exact HB.out | apply below_alloc | apply pw_below_drewN | apply below_drew1)⟩
     ·rw [if_neg c7] at H
      have c7b0 : decide (a1 < 0) = false := decide_eq_false c7
      clear c7
      by_cases c8 : a1 > (wrap64 ((wrap64 (8 * (l0.length : Int))) - a2))
      ·rw [if_pos c8] at H
       have c8b0 : decide ((wrap64 ((wrap64 (8 * (l0.length : Int))) - a2)) < a1) = true := decide_eq_true c8
       clear c8
       simp only [Option.some.injEq, Prod.mk.injEq] at H
       obtain ⟨rfl, rfl⟩ := H
       go_wp2
       repeat (go_quiet (fail); try go_wp2)
       (try simp only [Exit.jump]); go_ret2
       exact ⟨by first | rfl | (simp [errW_none, errW_some] <;> rfl) | (simp [*, errW_none, errW_some] <;> rfl), by repeat (first | exact HB.out | apply below_alloc | apply pw_below_drewN | apply below_drew1)⟩
      ·rw [if_neg c8] at H
       have c8b0 : decide ((wrap64 ((wrap64 (8 * (l0.length : Int))) - a2)) < a1) = false := decide_eq_false c8
       clear c8
       have H' := Aside0.mk H
       clear H
       go_wp2
       repeat (go_quiet (fail); try go_wp2)
       go_step3
       go_step
       go_step
       refine hL kj3 _ _ ?_
       (repeat apply Exists.intro)
       refine ⟨?_, rfl⟩
       exact ⟨(0), (a1), (a2), rfl, rfl, rfl, H', ⟨by repeat (first | exact HB.out | apply below_alloc | apply pw_below_drewN | apply below_drew1)⟩⟩
end Go.Proofs.Ythkpnnbjcendcaa.X
end
section
namespace Go.Proofs.Ythkpnnbjcendcaa.X
open Go.RowKit Go.Proofs.YthkpnnbjcendcaaW.PrintWords Go.Proofs.YthkpnnbjcendcaaW.PrintLast Go.Proofs.YthkpnnbjcendcaaW.PrintMore
attribute [local go_sem] max2_int min2_int max_two min_two max_three min_three max_four min_four
def bits_Clear.l0 : Nat → List Int → Int → Option (Bool)
 | 0, _, _ => none
 | k + 1, x0, x5 => if x5 < (wrap64 (8 * (x0.length : Int))) then ((bits_At.f k x0 x5 (mn (wrap64 (8 - (Int.tmod x5 8))) (wrap64 ((wrap64 (8 * (x0.length : Int))) - x5)))).bind fun bt121 => (if bt121.1 = 0 then (bits_Clear.l0 k x0 (wrap64 (x5 + (mn (wrap64 (8 - (Int.tmod x5 8))) (wrap64 ((wrap64 (8 * (x0.length : Int))) - x5)))))) else (some false))) else (some true)
def bits_Clear.f (k : Nat) (l0 : List Int) (a1 : Int) : Option (Bool) := if a1 < 0 then (some false) else (bits_Clear.l0 k l0 a1)
set_option maxHeartbeats 8000000 in
set_option maxRecDepth 100000 in
theorem bits_Clear.calls (k : Nat) (A0 : Option Addr) (c0 : Nat) (l0 : List Int) (a1 : Int) (r : Bool) (w : World) (hr0 : Kd.C (Kd.int .u8) w A0 l0.length l0) (hc0 : l0.length ≤ c0) (h : bits_Clear.f k l0 a1 = some r) :
  Calls Try.prog 28 #[.slice A0 l0.length c0, .int .i64 a1] w fun e w' => e = .returned (.bool r) ∧ Below w.heap.size w w' := by
 have HR0 := Aside0.mk hr0
 have HC0 := Aside0.mk hc0
 clear hr0 hc0
 have HB := Aside0.mk (Below.refl w.heap.size w)
 have H : (if a1 < 0 then (some false) else (bits_Clear.l0 k l0 a1)) = some r := h
 clear h
 by_cases c3 : a1 < 0
 ·rw [if_pos c3] at H
  have c3b0 : decide (a1 < 0) = true := decide_eq_true c3
  clear c3
  obtain rfl := Option.some.inj H
  go_enter Try.func28, Try.ntmps28
  go_wp2
  go_ret
  exact ⟨by first | rfl | (simp [errW_none, errW_some] <;> rfl) | (simp [*, errW_none, errW_some] <;> rfl), by repeat (first | exact HB.out | apply below_alloc | apply pw_below_drewN | apply below_drew1)⟩
 ·rw [if_neg c3] at H
  have c3b0 : decide (a1 < 0) = false := decide_eq_false c3
  clear c3
  have H' := Aside0.mk H
  clear H
  go_enter Try.func28, Try.ntmps28
  go_wp2
  go_loopg [5] k (fun kq v5 w' => ∃ (x5_1 : Int), v5 = .int .i64 x5_1 ∧ Aside0 (bits_Clear.l0 kq l0 x5_1 = some r) ∧ Aside0 (kq ≤ k) ∧ Aside0 (Below w.heap.size w w'))
  case atStart => exact ⟨(a1), (by first | rfl | (simp; done) | (simp [*]; done) | (simp <;> grind)), H', ⟨Nat.le_refl _⟩, ⟨by repeat (first | exact HB.out | apply below_alloc | apply pw_below_drewN | apply below_drew1)⟩⟩
  case round =>
   clear H'
   try clear c2
   try clear p2
   try clear c3
   try clear c3b0
   obtain ⟨x5_1, rfl, HA, HK1, HB⟩ := hrel
   cases gk with
   | zero => exact absurd HA.out (by simp [bits_Clear.l0])
   | succ k1 =>
    have H := HA.out
    clear HA
    simp only [bits_Clear.l0] at H
    by_cases c4 : x5_1 < (wrap64 (8 * (l0.length : Int)))
    ·rw [if_pos c4] at H
     have c4b0 : decide (x5_1 < (wrap64 (8 * (l0.length : Int)))) = true := decide_eq_true c4
     clear c4
     obtain ⟨ji5, hji5⟩ : ∃ j_ : Int, (mn (wrap64 (8 - (Int.tmod x5_1 8))) (wrap64 ((wrap64 (8 * (l0.length : Int))) - x5_1))) = j_ := ⟨_, rfl⟩
     replace H : ((bits_At.f k1 l0 x5_1 (ji5)).bind fun bt121 => (if bt121.1 = 0 then (bits_Clear.l0 k1 l0 (wrap64 (x5_1 + (ji5)))) else (some false))) = some r := by first | (rw [hji5] at H; exact H) | (simp only [hji5] at H ⊢; exact H)
     have hji5_ : (if (wrap64 ((wrap64 (8 * (l0.length : Int))) - x5_1)) < (wrap64 (8 - (Int.tmod x5_1 8))) then (wrap64 ((wrap64 (8 * (l0.length : Int))) - x5_1)) else (wrap64 (8 - (Int.tmod x5_1 8)))) = ji5 := hji5
     replace H := Option.bind_eq_some_iff.mp H
     obtain ⟨⟨t121, t122⟩, A60, H⟩ := H
     replace H : (if t121 = 0 then (bits_Clear.l0 k1 l0 (wrap64 (x5_1 + (ji5)))) else (some false)) = some r := H
     have A6 := Aside0.mk A60
     clear A60
     by_cases c7 : t121 = 0
     ·rw [if_pos c7] at H
      have c7b0 : (t121 == 0) = true := beq_iff_eq.mpr c7
      have c7b1 : (t121 != 0) = false := bne_eq_false_iff_eq.mpr c7
      clear c7
      have H' := Aside0.mk H
      clear H
      go_wp2_with (first | ((with_reducible refine gate_callee (f := 27) rfl ?_); refine goesL_ (some 30) rfl rfl Try.func27 (by kernel_rfl) rfl #[.slice A0 l0.length c0, .int .i64 x5_1, .int .i64 ji5] rfl (by (try simp only [List.map_toArray, List.map_cons, List.map_nil]); first | done | (simp only [hji5]; rfl) | rfl | (simp only [List.length_drop, List.length_take]; rfl)) ?_; (with_reducible refine (bits_At.calls k1 _ _ l0 x5_1 ji5 t121 t122 _ ?side1 ?side2 A6.out).mono ?_); (case side1 => repeat (first | exact (Kd.C_below HR0.out HB.out) | (with_reducible refine Kd.C_alloc ?_ _) | (with_reducible refine Kd.C_drewN ?_ _) | (with_reducible refine Kd.C_drew ?_))); (case side2 => exact HC0.out); rintro e w8 ⟨rfl, hb⟩; refine ⟨_, rfl, ?_⟩; have n0_ := Aside0.mk (below_step (by repeat (first | exact HB.out | apply below_alloc | apply pw_below_drewN | apply below_drew1)) hb); clear HB; have HB := n0_; clear n0_; (try clear hb); (try clear hb2); (try clear hk); (try clear hi)))
      go_roundg k1
      case measure => have := HK1.out; omega
      case rel => exact ⟨(wrap64 (x5_1 + (ji5))), (by first | rfl | (simp; done) | (simp only [← hji5] <;> (first | rfl | simp)) | (simp [*]; done) | (simp <;> grind)), (by first | exact H' | (simp only [hji5]; exact H')), ⟨by have := HK1.out; omega⟩, ⟨by repeat (first | exact HB.out | apply below_alloc | apply pw_below_drewN | apply below_drew1)⟩⟩
     ·rw [if_neg c7] at H
      have c7b0 : (t121 == 0) = false := beq_eq_false_iff_ne.mpr c7
      have c7b1 : (t121 != 0) = true := bne_iff_ne.mpr c7
      obtain rfl := Option.some.inj H
      go_wp2_with (first | ((with_reducible refine gate_callee (f := 27) rfl ?_); refine goesL_ (some 30) rfl rfl Try.func27 (by kernel_rfl) rfl #[.slice A0 l0.length c0, .int .i64 x5_1, .int .i64 ji5] rfl (by (try simp only [List.map_toArray, List.map_cons, List.map_nil]); first | done | (simp only [hji5]; rfl) | rfl | (simp only [List.length_drop, List.length_take]; rfl)) ?_; (with_reducible refine (bits_At.calls k1 _ _ l0 x5_1 ji5 t121 t122 _ ?side1 ?side2 A6.out).mono ?_); (case side1 => repeat (first | exact (Kd.C_below HR0.out HB.out) | (with_reducible refine Kd.C_alloc ?_ _) | (with_reducible refine Kd.C_drewN ?_ _) | (with_reducible refine Kd.C_drew ?_))); (case side2 => exact HC0.out); rintro e w9 ⟨rfl, hb⟩; refine ⟨_, rfl, ?_⟩; have n0_ := Aside0.mk (below_step (by repeat (first | exact HB.out | apply below_alloc | apply pw_below_drewN | apply below_drew1)) hb); clear HB; have HB := n0_; clear n0_; (try clear hb); (try clear hb2); (try clear hk); (try clear hi)))
      go_ret
      exact ⟨by first | rfl | (simp [errW_none, errW_some] <;> rfl) | (simp only [← hji5]; first | rfl | (simp [errW_none, errW_some] <;> rfl)) | (simp [*, errW_none, errW_some] <;> rfl), by repeat (first | exact HB.out | apply below_alloc | apply pw_below_drewN | apply below_drew1)⟩
    ·rw [if_neg c4] at H
     have c4b0 : decide (x5_1 < (wrap64 (8 * (l0.length : Int)))) = false := decide_eq_false c4
     clear c4
     obtain rfl := Option.some.inj H
     go_wp2
     go_ret
     exact ⟨by first | rfl | (simp [errW_none, errW_some] <;> rfl) | (simp [*, errW_none, errW_some] <;> rfl), by repeat (first | exact HB.out | apply below_alloc | apply pw_below_drewN | apply below_drew1)⟩
end Go.Proofs.Ythkpnnbjcendcaa.X
end
section
namespace Go.Proofs.Ythkpnnbjcendcaa.X
open Go.RowKit Go.Proofs.YthkpnnbjcendcaaW.PrintWords Go.Proofs.YthkpnnbjcendcaaW.PrintLast Go.Proofs.YthkpnnbjcendcaaW.PrintMore
attribute [local go_sem] max2_int min2_int max_two min_two max_three min_three max_four min_four
def slices_Clone_byte_byte.f (l0 : List Int) : Option (List Int) := (some (([] : List Int) : List Int)).bind fun y101 => (if y101.length + l0.length < 140737488355328 then (some (y101 ++ l0)) else (none))
set_option maxHeartbeats 8000000 in
set_option maxRecDepth 100000 in
theorem slices_Clone_byte_byte.callsS (A0 : Option Addr) (c0 : Nat) (l0 : List Int) (r : List Int) (w : World) (hr0 : Kd.C (Kd.int .u8) w A0 l0.length l0) (hc0 : l0.length ≤ c0) (hnn : A0.isNone = false) (h : slices_Clone_byte_byte.f l0 = some r) :
  Calls Try.prog 62 #[.slice A0 l0.length c0] w fun e w' => ∃ v0_ : Value, e = .returned (v0_) ∧ Kd.R (Kd.int .u8) 5 w' w.heap.size (fun _ => True) v0_ r ∧ Below w.heap.size w w' := by
 have hnil := fun (w : World) (a : Option Addr) (l c : Nat) => Go.run_eql_slice_nil w 24 5 a l c Try.underlying24
 have HR0 := Aside0.mk hr0
 have HC0 := Aside0.mk hc0
 clear hr0 hc0
 have HB := Aside0.mk (Below.refl w.heap.size w)
 have H : ((some (([] : List Int) : List Int)).bind fun y101 => (if y101.length + l0.length < 140737488355328 then (some (y101 ++ l0)) else (none))) = some r := h
 clear h
 obtain ⟨y101, hy101⟩ : ∃ y_ : List Int, y_ = (([] : List Int)) := ⟨_, rfl⟩
 replace H : (if y101.length + l0.length < 140737488355328 then (some (y101 ++ l0)) else (none)) = some r := by first | (rw [hy101]; with_reducible exact H) | (have H2_ := (Option.bind_some _ _).symm.trans H; rw [hy101]; with_reducible exact H2_) | (have H2_ := (Option.bind_some _ _).symm.trans H; with_reducible exact H2_) | with_reducible exact H | (rw [hy101]; exact H) | exact H
 have Ny101 := Aside0.mk hy101
 clear hy101
 by_cases c2 : y101.length + l0.length < 140737488355328
 ·rw [if_pos c2] at H
  have LMc2 := Aside0.mk c2
  clear c2
  obtain ⟨y104, hy104⟩ : ∃ y_ : List Int, y_ = (y101 ++ l0) := ⟨_, rfl⟩
  replace H : (some y104) = some r := by first | (rw [hy104]; with_reducible exact H) | (have H2_ := (Option.bind_some _ _).symm.trans H; rw [hy104]; with_reducible exact H2_) | (have H2_ := (Option.bind_some _ _).symm.trans H; with_reducible exact H2_) | with_reducible exact H | (rw [hy104]; exact H) | exact H
  have Ny104 := Aside0.mk hy104
  clear hy104
  obtain rfl := Option.some.inj H
  go_enter Try.func62, Try.ntmps62
  go_wp2_with (first | ((with_reducible refine gate_dst (N := 5) rfl ?_); refine Kd.R_lit (Kd.int .u8) _ 5 ?hg (N := 5) ?hd (xs := ([] : List Int)) (inner := []) (ok := fun _ => True) (okp := fun _ => True) ?hr ?hp (fun _ hk => hk) trivial (Below.refl _ _) (Nat.le_refl _) (by simp) ?_; (case hd => rfl); (case hg => rfl); (case hr => first | (go_simp; done) | (go_simp; rfl)); (case hp => exact (Reps.none _ _)); intro v102 w3 ho4 hb hg_ hnew_; clear hg_ hnew_; (first | rw [← Ny101.out] at ho4 | (simp only [Int.reduceToNat] at ho4; rw [← Ny101.out] at ho4)); have n0_ := Aside0.mk (Kd.R_lower ho4 (below_size (by repeat (first | exact HB.out | apply below_alloc | apply pw_below_drewN | apply below_drew1)))); have n1_ := Aside0.mk (below_step (by repeat (first | exact HB.out | apply below_alloc | apply pw_below_drewN | apply below_drew1)) hb); clear HB; have HO103 := n0_; have HB := n1_; clear n0_ n1_; clear hb ho4) | ((with_reducible refine gate_builtin (b := .append) (xs := #[.tmp 5, .tmp 6]) rfl ?_); at_builtin; refine Kd.R_append_rows (Kd.int .u8) (w0 := w) w.heap.size rfl (.tmp 5) (.tmp 6) 24 5 (.int .u8 0) 1 rfl Try.underlying24 info5 rfl (by decide) (by omega) v102 y101 l0 _ _ _ (fun _ => True) (fun _ => False) rfl rfl ?aO ?aR (fun _ _ h => h) (fun _ h => h.elim) ?aF ?aB ?aS ?aL ?_; (case aR => repeat (first | exact (Kd.C_below HR0.out HB.out) | (with_reducible refine Kd.C_alloc ?_ _) | (with_reducible refine Kd.C_drewN ?_ _) | (with_reducible refine Kd.C_drew ?_))); (case aB => exact (by repeat (first | exact HB.out | apply below_alloc | apply pw_below_drewN | apply below_drew1))); (case aF => exact (fun _ _ => trivial)); (case aO => exact (by (with_reducible repeat (first | apply Kd.R_alloc | apply Kd.R_drewN | apply Kd.R_drew)); exact HO103.out)); (case aS => exact (below_size (by repeat (first | exact HB.out | apply below_alloc | apply pw_below_drewN | apply below_drew1)))); (case aL => have := LMc2.out; omega); intro v105 w5 ho hb hg hat; rw [← Ny104.out] at ho; have n0_ := Aside0.mk (hb); have n1_ := Aside0.mk (ho); clear HB; clear HO103; have HB := n0_; have HO106 := n1_; clear n0_ n1_; clear ho hb hg hat))
  go_ret
  exact ⟨_, by first | rfl | (simp [errW_none, errW_some] <;> rfl) | (simp [*, errW_none, errW_some] <;> rfl), by (with_reducible repeat (first | apply Kd.R_alloc | apply Kd.R_drewN | apply Kd.R_drew)); exact HO106.out, by repeat (first | exact HB.out | apply below_alloc | apply pw_below_drewN | apply below_drew1)⟩
 ·rw [if_neg c2] at H
  exact absurd H (by simp)
theorem slices_Clone_byte_byte.calls (A0 : Option Addr) (c0 : Nat) (l0 : List Int) (r : List Int) (w : World) (hr0 : Kd.C (Kd.int .u8) w A0 l0.length l0) (hc0 : l0.length ≤ c0) (h : slices_Clone_byte_byte.f l0 = some r) :
  Calls Try.prog 62 #[.slice A0 l0.length c0] w fun e w' => ∃ v0_ : Value, e = .returned (v0_) ∧ Kd.R (Kd.int .u8) 5 w' w.heap.size (fun _ => True) v0_ r ∧ Below w.heap.size w w' := by
 rcases A0 with _ | a
 ·have hl : l0 = [] := by
   cases l0 with
   | nil => rfl
   | cons z zs => obtain ⟨_, _, hz⟩ := hr0; obtain ⟨ad, had, _⟩ := hz (by simp); cases had
  subst hl
  obtain rfl : r = [] := by simpa [slices_Clone_byte_byte.f] using h.symm
  have hnil := fun (w : World) (a : Option Addr) (l c : Nat) => Go.run_eql_slice_nil w 24 5 a l c Try.underlying24
  go_enter Try.func62, Try.ntmps62
  go_wp2
  go_ret
  exact ⟨_, rfl, Kd.R_nil _ _ _ _ _, Below.refl _ _⟩
 ·exact slices_Clone_byte_byte.callsS (some a) c0 l0 r w hr0 hc0 rfl h
end Go.Proofs.Ythkpnnbjcendcaa.X
end
section
namespace Go.Proofs.Ythkpnnbjcendcaa.X
open Go.RowKit Go.Proofs.YthkpnnbjcendcaaW.PrintWords Go.Proofs.YthkpnnbjcendcaaW.PrintLast Go.Proofs.YthkpnnbjcendcaaW.PrintMore
attribute [local go_sem] max2_int min2_int max_two min_two max_three min_three max_four min_four
theorem bits_Bits_Bytes.calls (g : Nat) (base : Nat) (u : Value) (l0 : List Int) (many : Int) (r : List Int) (w : World) (ok : Nat → Prop) (hb0 : w.heap[g]? = some (.cells #[u, .int .i64 many] 26 (0, 0))) (ho : Kd.R (Kd.int .u8) 5 w base ok u l0) (h : slices_Clone_byte_byte.f l0 = some r) :
  Calls Try.prog 25 #[.pointer (some ⟨g, 0, none⟩)] w fun e w' => ∃ v_ : Value, e = .returned v_ ∧ Kd.R (Kd.int .u8) 5 w' w.heap.size (fun _ => True) v_ r ∧ Below w.heap.size w w' := by
 have HB := Aside0.mk (Below.refl w.heap.size w)
 obtain ⟨A0, c0, rfl⟩ := Kd.R_slice ho
 have HC := Aside0.mk (Kd.R_reads' ho).2.2
 have HL := Aside0.mk (Kd.R_reads' ho).2.1
 have hc0 : World.cell? w ⟨g, 0, none⟩ = some (Value.slice A0 l0.length c0) := (blk_cell hb0 0).trans rfl
 have Hh := Aside0.mk h
 clear hb0 ho h
 go_enter Try.func25, Try.ntmps25
 go_wp2_with (first | ((with_reducible refine gate_callee (f := 62) rfl ?_); refine goesL_ (some 9) rfl rfl Try.func62 (by kernel_rfl) rfl #[.slice A0 l0.length c0] rfl (by (try simp only [List.map_toArray, List.map_cons, List.map_nil]); first | done | rfl) ?_; (with_reducible refine (slices_Clone_byte_byte.calls _ _ l0 r _ ?side1 HL.out Hh.out).mono ?_); (case side1 => repeat (first | exact HC.out | (with_reducible refine Kd.C_alloc ?_ _) | (with_reducible refine Kd.C_drewN ?_ _) | (with_reducible refine Kd.C_drew ?_))); rintro e w3 ⟨v1, rfl, ho, hb⟩; refine ⟨_, rfl, ?_⟩; have n0_ := Aside0.mk (Kd.R_lower ho (below_size (by repeat (first | exact HB.out | apply below_alloc | apply pw_below_drewN | apply below_drew1)))); have n1_ := Aside0.mk (below_step (by repeat (first | exact HB.out | apply below_alloc | apply pw_below_drewN | apply below_drew1)) hb); clear HB; have HO := n0_; have HB := n1_; clear n0_ n1_ ho hb))
 go_ret
 exact ⟨_, rfl, by (with_reducible repeat (first | apply Kd.R_alloc | apply Kd.R_drewN | apply Kd.R_drew)); exact HO.out, by repeat (first | exact HB.out | apply below_alloc | apply pw_below_drewN | apply below_drew1)⟩
end Go.Proofs.Ythkpnnbjcendcaa.X
end
section
namespace Go.Proofs.Ythkpnnbjcendcaa.Pure
open Go.RowKit Go.Proofs.Ythkpnnbjcendcaa.X Go.Proofs.Ythkpnnbjcendcaa.Pl Go.Proofs.YthkpnnbjcendcaaW.PrintWords Go.Proofs.YthkpnnbjcendcaaW.PrintLast Go.Proofs.YthkpnnbjcendcaaW.PrintMore
def by_ (b : List Int) (p : Nat) : Nat := (b.getD (p / 8) 0).toNat
def bt (b : List Int) (p : Nat) : Nat := by_ b p / 2 ^ (7 - p % 8) % 2
def val (b : List Int) (p : Nat) : Nat → Nat
 | 0 => 0
 | w + 1 => 2 * val b p w + bt b (p + w)
def Byt (b : List Int) : Prop := ∀ x ∈ b, 0 ≤ x ∧ x ≤ 255
theorem by_rd {b : List Int} (h : Byt b) (p : Nat) (hp : p < 8 * b.length) : rd b ((p / 8 : Nat) : Int) = (by_ b p : Int) ∧ by_ b p < 256 := by
 have hlt : p / 8 < b.length := by omega
 have hm := h _ (List.getElem_mem hlt)
 have e : b.getD (p / 8) 0 = b[p / 8] := getD_lt b _ _ hlt
 unfold by_
 constructor
 ·show b.getD (((p / 8 : Nat) : Int)).toNat 0 = _
  rw [Int.toNat_natCast, e]; omega
 ·rw [e]; omega
theorem bt_lt (b : List Int) (p : Nat) : bt b p < 2 := Nat.mod_lt _ (by decide)
theorem val_lt (b : List Int) (p : Nat) : ∀ w, val b p w < 2 ^ w
 | 0 => by simp [val]
 | w + 1 => by
  have := val_lt b p w
  have := bt_lt b (p + w)
  rw [val, Nat.pow_succ]; omega
theorem val_add (b : List Int) (p w : Nat) : ∀ m, val b p (w + m) = val b p w * 2 ^ m + val b (p + w) m
 | 0 => by simp [val]
 | m + 1 => by
  rw [← Nat.add_assoc, val, val_add b p w m, val, Nat.pow_succ, ← Nat.add_assoc p w m]
  rw [Nat.mul_add, Nat.mul_comm (2 ^ m) 2, ← Nat.mul_assoc, ← Nat.mul_assoc, Nat.mul_comm 2 (val b p w)]
  omega
theorem val_zero (b : List Int) (p : Nat) : ∀ w, val b p w = 0 ↔ ∀ j, j < w → bt b (p + j) = 0
 | 0 => by simp [val]
 | w + 1 => by
  rw [val]
  have ih := val_zero b p w
  constructor
  ·intro h j hj
   rcases (by omega : j < w ∨ j = w) with h' | rfl
   ·exact ih.1 (by omega) j h'
   ·omega
  ·intro h
   have h1 := ih.2 (fun j hj => h j (by omega))
   have h2 := h w (by omega)
   omega
theorem val_byte (b : List Int) (p : Nat) : ∀ s, p % 8 + s ≤ 8 → val b p s = by_ b p / 2 ^ (8 - p % 8 - s) % 2 ^ s
 | 0, _ => by simp [val, Nat.mod_one]
 | s + 1, h => by
  have e1 : by_ b (p + s) = by_ b p := by unfold by_; rw [show (p + s) / 8 = p / 8 by omega]
  have e2 : (p + s) % 8 = p % 8 + s := by omega
  rw [val, val_byte b p s (by omega), bt, e1, e2]
  have e3 : 8 - p % 8 - s = (7 - (p % 8 + s)) + 1 := by omega
  have e4 : 8 - p % 8 - (s + 1) = 7 - (p % 8 + s) := by omega
  rw [e3, e4, Nat.pow_succ 2 (7 - (p % 8 + s)), ← Nat.div_div_eq_div_mul, Nat.pow_succ 2 s, Nat.mul_comm (2 ^ s) 2, Nat.mod_mul]
  omega
def atR (b : List Int) (p w : Int) : Int × Int :=
 if w < 0 ∨ w > 64 then (0, 20) else if p < 0 ∨ p > 8 * (b.length : Int) - w then (0, 2) else ((val b p.toNat w.toNat : Int), 0)
theorem mask8 {s : Nat} (h : s ≤ 8) : (255 : Int) / 2 ^ (8 - s) = 2 ^ s - 1 := by
 rcases (by omega : s = 0 ∨ s = 1 ∨ s = 2 ∨ s = 3 ∨ s = 4 ∨ s = 5 ∨ s = 6 ∨ s = 7 ∨ s = 8) with rfl | rfl | rfl | rfl | rfl | rfl | rfl | rfl | rfl <;> decide
theorem w_u64 {n : Int} (h0 : 0 ≤ n) (h1 : n < 2 ^ 64) : IntKind.u64.wrap n = n := by
 simp only [IntKind.wrap, IntKind.signed, IntKind.bits]
 simp only [Bool.false_and, Bool.false_eq_true, if_false]
 exact Int.emod_eq_of_lt h0 h1
theorem part_is {b : List Int} (hb : Byt b) {p s : Nat} (hp : p < 8 * b.length) (hs : p % 8 + s ≤ 8) :
  Go.bits .and .u8 (shr .u8 (rd b ((p / 8 : Nat) : Int)) ((8 - p % 8 - s : Nat) : Int)) (shr .u8 255 ((8 - s : Nat) : Int)) = (val b p s : Int) := by
 obtain ⟨hr, hlt⟩ := by_rd hb p hp
 have e1 : min ((8 - p % 8 - s : Nat) : Int).toNat IntKind.u8.bits = 8 - p % 8 - s := by
  rw [Int.toNat_natCast]; exact Nat.min_eq_left (by show _ ≤ 8; omega)
 have e2 : min ((8 - s : Nat) : Int).toNat IntKind.u8.bits = 8 - s := by
  rw [Int.toNat_natCast]; exact Nat.min_eq_left (by show _ ≤ 8; omega)
 unfold shr
 rw [e1, e2, hr, mask8 (by omega)]
 have e3 : ((by_ b p : Nat) : Int) / 2 ^ (8 - p % 8 - s) = ((by_ b p / 2 ^ (8 - p % 8 - s) : Nat) : Int) := by
  rw [Int.natCast_ediv]; simp
 have h4 : by_ b p / 2 ^ (8 - p % 8 - s) < 2 ^ 8 := Nat.lt_of_le_of_lt (Nat.div_le_self _ _) hlt
 rw [e3, bits_mask .u8 8 (by decide) wraps_u8 s (by omega) _ (Int.natCast_nonneg _) (by exact_mod_cast h4), val_byte b p s hs]
 simp
theorem or_is {n s v : Nat} (hn : n * 2 ^ s < 2 ^ 64) (hv : v < 2 ^ s) (hs : s ≤ 64) : Go.bits .or .u64 (shl .u64 (n : Int) ((s : Nat) : Int)) (v : Int) = ((n * 2 ^ s + v : Nat) : Int) := by
 have e1 : min ((s : Nat) : Int).toNat IntKind.u64.bits = s := by
  rw [Int.toNat_natCast]; exact Nat.min_eq_left (by show _ ≤ 64; omega)
 have hc : (n : Int) * 2 ^ s = ((n * 2 ^ s : Nat) : Int) := by simp
 have hv64 : v < 2 ^ 64 := Nat.lt_of_lt_of_le hv (Nat.pow_le_pow_right (by decide) hs)
 unfold shl
 rw [e1, hc, w_u64 (Int.natCast_nonneg _) (by exact_mod_cast hn)]
 rw [bits_join .u64 64 (by decide) (fun n h0 h1 => w_u64 h0 h1) s _ _ (Int.natCast_nonneg _) (by rw [← hc]; exact Int.mul_emod_left _ _) (by exact_mod_cast hn) (Int.natCast_nonneg _) (by exact_mod_cast hv) (by exact_mod_cast hv64)]
 simp
theorem at_loop {b : List Int} (hb : Byt b) (hl : b.length < 1000000) (left : Nat) : ∀ (n p done : Nat), n < 2 ^ done → done + left ≤ 64 → p + left ≤ 8 * b.length →
  Ev (fun k => bits_At.l0 k b (n : Int) (p : Int) (left : Int)) (((n * 2 ^ left + val b p left : Nat) : Int), 0) := by
 induction left using Nat.strongRecOn with
 | _ left ih =>
  intro n p done hn hd hp
  by_cases h0 : left = 0
  ·subst h0
   exact ev_stop fun k => by rw [bits_At.l0, if_pos (by simp)]; simp [val]
  ·have hmod : Int.tmod (p : Int) 8 = ((p % 8 : Nat) : Int) := by rw [tmod_pos (by omega)]; omega
   have hdiv : Int.tdiv (p : Int) 8 = ((p / 8 : Nat) : Int) := by rw [tdiv_pos (by omega)]; omega
   obtain ⟨s, hs⟩ : ∃ s : Nat, s = min (8 - p % 8) left := ⟨_, rfl⟩
   have hmn : mn (wrap64 (8 - Int.tmod (p : Int) 8)) (left : Int) = (s : Int) := by
    rw [hmod, w64 (by omega) (by omega)]
    have := @mn_le (8 - ((p % 8 : Nat) : Int)) (left : Int)
    omega
   have hs1 : 1 ≤ s ∧ s ≤ left ∧ p % 8 + s ≤ 8 := by omega
   have hfree : wrap64 (8 - Int.tmod (p : Int) 8) = ((8 - p % 8 : Nat) : Int) := by rw [hmod, w64 (by omega) (by omega)]; omega
   refine ev_succ (fun k => by rw [bits_At.l0]) ?_
   rw [hmn, hfree, hdiv, w64 (x := ((p / 8 : Nat) : Int)) (by omega) (by omega), w64 (x := ((8 - p % 8 : Nat) : Int) - (s : Int)) (by omega) (by omega), w64 (x := 8 - (s : Int)) (by omega) (by omega), w64 (x := (p : Int) + (s : Int)) (by omega) (by omega), w64 (x := (left : Int) - (s : Int)) (by omega) (by omega)]
   rw [show ((8 - p % 8 : Nat) : Int) - (s : Int) = ((8 - p % 8 - s : Nat) : Int) by omega, show 8 - (s : Int) = ((8 - s : Nat) : Int) by omega, part_is hb (by omega) hs1.2.2]
   have hv := val_lt b p s
   have hv64 : val b p s < 2 ^ 64 := Nat.lt_of_lt_of_le hv (Nat.pow_le_pow_right (by decide) (by omega))
   have hns : n * 2 ^ s < 2 ^ (done + s) := by rw [Nat.pow_add]; exact (Nat.mul_lt_mul_right (Nat.two_pow_pos s)).2 hn
   have h64 : 2 ^ (done + s) ≤ 2 ^ 64 := Nat.pow_le_pow_right (by decide) (by omega)
   rw [w_u64 (Int.natCast_nonneg _) (by exact_mod_cast hv64), or_is (Nat.lt_of_lt_of_le hns h64) hv (by omega)]
   refine ev_neg (by omega) (ev_pos (by omega) (ev_pos (by omega) (ev_pos (by omega) (ev_pos (by omega) (ev_pos (by omega) ?_)))))
   have hn2 : n * 2 ^ s + val b p s < 2 ^ (done + s) := by
    have : n * 2 ^ s + 2 ^ s ≤ 2 ^ (done + s) := by
     rw [Nat.pow_add]
     have := Nat.mul_le_mul_right (2 ^ s) (show n + 1 ≤ 2 ^ done from hn)
     rw [Nat.add_mul, Nat.one_mul] at this
     exact this
    omega
   have := ih (left - s) (by omega) (n * 2 ^ s + val b p s) (p + s) (done + s) hn2 (by omega) (by omega)
   rw [show (((p + s : Nat)) : Int) = (p : Int) + (s : Int) by omega, show ((left - s : Nat) : Int) = (left : Int) - (s : Int) by omega] at this
   refine ev_eq this ?_
   have e1 : val b p left = val b p s * 2 ^ (left - s) + val b (p + s) (left - s) := by
    have := val_add b p s (left - s)
    rwa [show s + (left - s) = left by omega] at this
   have e2 : n * 2 ^ left = n * 2 ^ s * 2 ^ (left - s) := by rw [Nat.mul_assoc, ← Nat.pow_add, show s + (left - s) = left by omega]
   rw [e1, e2, Nat.add_mul]
   congr 2
   omega
theorem at_ev {b : List Int} (hb : Byt b) (hl : b.length < 1000000) (p w : Int) (hw : -9223372036854775808 ≤ w ∧ w ≤ 9223372036854775807) : Ev (fun k => bits_At.f k b p w) (atR b p w) := by
 unfold bits_At.f atR
 have hbad : ∀ c : Bool, c = true → Ev (fun k => bits_At.j0 k b p w c) (0, 20) := fun c hc => ev_stop fun k => by rw [bits_At.j0, if_pos hc]
 by_cases h1 : w < 0
 ·rw [if_pos (.inl h1)]; exact ev_pos h1 (hbad _ rfl)
 ·refine ev_neg h1 ?_
  by_cases h2 : w > 64
  ·rw [if_pos (.inr h2)]; exact hbad _ (by simpa using h2)
  ·rw [if_neg (by omega)]
   refine ev_succ (fun k => by rw [bits_At.j0]) ?_
   rw [w64 (x := 8 * (b.length : Int)) (by omega) (by omega), w64 (x := 8 * (b.length : Int) - w) (by omega) (by omega)]
   refine ev_neg (by simpa using h2) ?_
   by_cases h3 : p < 0
   ·rw [if_pos (.inl h3)]; exact ev_pos h3 (Ev.now _)
   ·refine ev_neg h3 ?_
    by_cases h4 : p > 8 * (b.length : Int) - w
    ·rw [if_pos (.inr h4)]; exact ev_pos h4 (Ev.now _)
    ·rw [if_neg (by omega)]
     refine ev_neg h4 ?_
     have := at_loop hb hl w.toNat 0 p.toNat 0 (by decide) (by omega) (by omega)
     rw [show ((p.toNat : Nat) : Int) = p by omega, show ((w.toNat : Nat) : Int) = w by omega] at this
     simpa using this
theorem bit_is {b : List Int} (hb : Byt b) (hl : b.length < 1000000) (p : Nat) (hp : p < 8 * b.length) : marigraphref02_bit.f b (p : Int) = some (bt b p : Int) := by
 obtain ⟨hr, hlt⟩ := by_rd hb p hp
 have hmod : Int.tmod (p : Int) 8 = ((p % 8 : Nat) : Int) := by rw [tmod_pos (by omega)]; omega
 have hdiv : Int.tdiv (p : Int) 8 = ((p / 8 : Nat) : Int) := by rw [tdiv_pos (by omega)]; omega
 have hsh : shr .u8 128 ((p % 8 : Nat) : Int) = ((2 ^ (7 - p % 8) : Nat) : Int) := by
  have hr8 : p % 8 < 8 := by omega
  generalize p % 8 = r at hr8
  rcases (by omega : r = 0 ∨ r = 1 ∨ r = 2 ∨ r = 3 ∨ r = 4 ∨ r = 5 ∨ r = 6 ∨ r = 7) with rfl | rfl | rfl | rfl | rfl | rfl | rfl | rfl <;> decide
 have hpos := Nat.two_pow_pos (7 - p % 8)
 unfold marigraphref02_bit.f
 rw [hdiv, hmod, w64 (by omega) (by omega), hsh, hr, if_pos (by omega), if_pos (by omega), if_pos (by omega), if_neg (by omega)]
 congr 1
 rw [tdiv_pos (by omega)]
 have hd : ((by_ b p : Nat) : Int) / ((2 ^ (7 - p % 8) : Nat) : Int) = ((by_ b p / 2 ^ (7 - p % 8) : Nat) : Int) := (Int.natCast_ediv _ _).symm
 have hle : by_ b p / 2 ^ (7 - p % 8) ≤ by_ b p := Nat.div_le_self _ _
 rw [hd]
 unfold bt
 generalize by_ b p / 2 ^ (7 - p % 8) = q at hle ⊢
 omega
theorem ref_at_loop {b : List Int} (hb : Byt b) (hl : b.length < 1000000) (p w : Nat) (hw : w ≤ 64) (hp : p + w ≤ 8 * b.length) (d : Nat) : ∀ i : Nat, w - i = d → i ≤ w →
  Ev (fun k => marigraphref02_At.l0 k b (p : Int) (w : Int) (val b p i : Int) (i : Int)) ((val b p w : Int), 0) := by
 induction d with
 | zero =>
  intro i hd hi
  obtain rfl : i = w := by omega
  exact ev_stop fun k => by rw [marigraphref02_At.l0, if_neg (by omega)]
 | succ d ih =>
  intro i hd hi
  have hv : val b p (i + 1) < 2 ^ 64 := Nat.lt_of_lt_of_le (val_lt b p (i + 1)) (Nat.pow_le_pow_right (by decide) (by omega))
  have hbt := bt_lt b (p + i)
  have e : val b p (i + 1) = 2 * val b p i + bt b (p + i) := rfl
  have hbit := bit_is hb hl (p + i) (by omega)
  refine ev_succ (fun k => by rw [marigraphref02_At.l0]) ?_
  rw [w64 (x := (p : Int) + (i : Int)) (by omega) (by omega), show (p : Int) + (i : Int) = ((p + i : Nat) : Int) by omega]
  refine ev_pos (by omega) (ev_const hbit ?_)
  rw [w_u64 (n := (val b p i : Int) * 2) (by omega) (by omega), w_u64 (n := (val b p i : Int) * 2 + (bt b (p + i) : Int)) (by omega) (by omega), w64 (x := (i : Int) + 1) (by omega) (by omega)]
  have := ih (i + 1) (by omega) (by omega)
  rw [e] at this
  rw [show (val b p i : Int) * 2 + (bt b (p + i) : Int) = ((2 * val b p i + bt b (p + i) : Nat) : Int) by omega]
  exact this
theorem ref_at_ev {b : List Int} (hb : Byt b) (hl : b.length < 1000000) (p w : Int) (hw : -9223372036854775808 ≤ w ∧ w ≤ 9223372036854775807) : Ev (fun k => marigraphref02_At.f k b p w) (atR b p w) := by
 unfold marigraphref02_At.f atR
 have hbad : ∀ c : Bool, c = true → Ev (fun k => marigraphref02_At.j0 k b p w c) (0, 20) := fun c hc => ev_stop fun k => by rw [marigraphref02_At.j0, if_pos hc]
 have hbad2 : ∀ c : Bool, c = true → Ev (fun k => marigraphref02_At.j1 k b p w c) (0, 2) := fun c hc => ev_stop fun k => by rw [marigraphref02_At.j1, if_pos hc]
 by_cases h1 : w < 0
 ·rw [if_pos (.inl h1)]; exact ev_pos h1 (hbad _ rfl)
 ·refine ev_neg h1 ?_
  by_cases h2 : w > 64
  ·rw [if_pos (.inr h2)]; exact hbad _ (by simpa using h2)
  ·rw [if_neg (by omega)]
   refine ev_succ (fun k => by rw [marigraphref02_At.j0]) ?_
   rw [w64 (x := 8 * (b.length : Int)) (by omega) (by omega), w64 (x := 8 * (b.length : Int) - w) (by omega) (by omega)]
   refine ev_neg (by simpa using h2) ?_
   by_cases h3 : p < 0
   ·rw [if_pos (.inl h3)]; exact ev_pos h3 (hbad2 _ rfl)
   ·refine ev_neg h3 ?_
    by_cases h4 : p > 8 * (b.length : Int) - w
    ·rw [if_pos (.inr h4)]; exact hbad2 _ (by simpa using h4)
    ·rw [if_neg (by omega)]
     refine ev_succ (fun k => by rw [marigraphref02_At.j1]) ?_
     refine ev_neg (by simpa using h4) ?_
     have := ref_at_loop hb hl p.toNat w.toNat (by omega) (by omega) _ 0 rfl (Nat.zero_le _)
     rw [show ((p.toNat : Nat) : Int) = p by omega, show ((w.toNat : Nat) : Int) = w by omega] at this
     exact this
def clr (b : List Int) (p : Int) : Bool := if p < 0 then false else decide (∀ q, q < 8 * b.length → p.toNat ≤ q → bt b q = 0)
theorem clear_loop {b : List Int} (hb : Byt b) (hl : b.length < 1000000) (d : Nat) : ∀ p : Nat, 8 * b.length - p ≤ d → p ≤ 8 * b.length →
  Ev (fun k => bits_Clear.l0 k b (p : Int)) (decide (∀ q, q < 8 * b.length → p ≤ q → bt b q = 0)) := by
 induction d with
 | zero =>
  intro p hd hp
  refine ev_eq (ev_stop (r := true) fun k => by rw [bits_Clear.l0, w64 (by omega) (by omega), if_neg (by omega)]) ?_
  rw [eq_comm, decide_eq_true_iff]
  intro q hq hpq
  omega
 | succ d ih =>
  intro p hd hp
  by_cases hlt : p < 8 * b.length
  ·have hmod : Int.tmod (p : Int) 8 = ((p % 8 : Nat) : Int) := by rw [tmod_pos (by omega)]; omega
   obtain ⟨s, hs⟩ : ∃ s : Nat, s = min (8 - p % 8) (8 * b.length - p) := ⟨_, rfl⟩
   have hmn : mn (wrap64 (8 - Int.tmod (p : Int) 8)) (wrap64 (wrap64 (8 * (b.length : Int)) - (p : Int))) = (s : Int) := by
    rw [hmod, w64 (x := 8 - ((p % 8 : Nat) : Int)) (by omega) (by omega), w64 (x := 8 * (b.length : Int)) (by omega) (by omega), w64 (x := 8 * (b.length : Int) - (p : Int)) (by omega) (by omega)]
    have := @mn_le (8 - ((p % 8 : Nat) : Int)) (8 * (b.length : Int) - (p : Int))
    omega
   have hat := at_ev hb hl (p : Int) (s : Int) (by omega)
   have hR : atR b (p : Int) (s : Int) = ((val b p s : Int), 0) := by
    unfold atR
    rw [if_neg (by omega), if_neg (by omega)]
    simp
   rw [hR] at hat
   have hz := val_zero b p s
   refine ev_succ (fun k => by rw [bits_Clear.l0]) ?_
   rw [hmn, w64 (x := 8 * (b.length : Int)) (by omega) (by omega), w64 (x := (p : Int) + (s : Int)) (by omega) (by omega)]
   refine ev_pos (by omega) (ev_bind hat ?_)
   by_cases hv : val b p s = 0
   ·refine ev_pos (by simp [hv]) ?_
    have := ih (p + s) (by omega) (by omega)
    rw [show ((p + s : Nat) : Int) = (p : Int) + (s : Int) by omega] at this
    refine ev_eq this ?_
    rw [decide_eq_decide]
    constructor
    ·intro h q hq hpq
     rcases Nat.lt_or_ge q (p + s) with h' | h'
     ·have := hz.1 hv (q - p) (by omega)
      rwa [show p + (q - p) = q by omega] at this
     ·exact h q hq h'
    ·intro h q hq hpq
     exact h q hq (by omega)
   ·refine ev_neg (by simp; omega) (ev_eq (Ev.now _) ?_)
    rw [eq_comm, decide_eq_false_iff_not]
    intro h
    exact hv (hz.2 (fun j hj => h (p + j) (by omega) (by omega)))
  ·refine ev_eq (ev_stop (r := true) fun k => by rw [bits_Clear.l0, w64 (by omega) (by omega), if_neg (by omega)]) ?_
   rw [eq_comm, decide_eq_true_iff]
   intro q hq hpq
   omega
theorem clear_ev {b : List Int} (hb : Byt b) (hl : b.length < 1000000) (p : Int) : Ev (fun k => bits_Clear.f k b p) (clr b p) := by
 unfold bits_Clear.f clr
 by_cases h : p < 0
 ·rw [if_pos h]; exact ev_pos h (Ev.now _)
 ·rw [if_neg h]
  refine ev_neg h ?_
  by_cases hp : p.toNat ≤ 8 * b.length
  ·have := clear_loop hb hl _ p.toNat (Nat.le_refl _) hp
   rw [show ((p.toNat : Nat) : Int) = p by omega] at this
   exact this
  ·refine ev_eq (ev_stop (r := true) fun k => by rw [bits_Clear.l0, w64 (by omega) (by omega), if_neg (by omega)]) ?_
   rw [eq_comm, decide_eq_true_iff]
   intro q hq hpq
   omega
end Go.Proofs.Ythkpnnbjcendcaa.Pure
end
section
namespace Go.Proofs.Ythkpnnbjcendcaa.Pure
open Go.RowKit Go.Proofs.Ythkpnnbjcendcaa.X Go.Proofs.Ythkpnnbjcendcaa.Pl Go.Proofs.YthkpnnbjcendcaaW.PrintWords Go.Proofs.YthkpnnbjcendcaaW.PrintLast Go.Proofs.YthkpnnbjcendcaaW.PrintMore
structure Hold (b : List Int) (m : Nat) : Prop where
 byt : Byt b
 len : b.length = (m + 7) / 8
 max : m ≤ 262144
 zero : ∀ q, q < 8 * b.length → m ≤ q → bt b q = 0
theorem hold_nil : Hold [] 0 := ⟨by intro x hx; simp at hx, rfl, by decide, by intro q hq; simp at hq⟩
theorem low_zero (x a : Nat) (ha : a ≤ 8) (hx : x < 256) (h : ∀ j, a ≤ j → j < 8 → x / 2 ^ (7 - j) % 2 = 0) : x % 2 ^ (8 - a) = 0 := by
 have : ∀ d, d ≤ 8 - a → x % 2 ^ d = 0 := by
  intro d
  induction d with
  | zero => intro _; simp [Nat.mod_one]
  | succ d ih =>
   intro hd
   have h1 := ih (by omega)
   have h2 := h (7 - d) (by omega) (by omega)
   rw [show 7 - (7 - d) = d by omega] at h2
   rw [Nat.pow_succ, Nat.mod_mul, h1, h2, Nat.mul_zero]
 exact this _ (Nat.le_refl _)
set_option synthInstance.maxSize 4000 in
set_option synthInstance.maxHeartbeats 400000 in
theorem byte_all : ∀ a, a < 9 → ∀ s, s < 9 - a → ∀ X, X < 2 ^ a → ∀ v, v < 2 ^ s →
  X * 2 ^ (8 - a) ||| v * 2 ^ (8 - a - s) = X * 2 ^ (8 - a) + v * 2 ^ (8 - a - s) ∧ X * 2 ^ (8 - a) + v * 2 ^ (8 - a - s) < 256 ∧
  (∀ j, j < a → (X * 2 ^ (8 - a) + v * 2 ^ (8 - a - s)) / 2 ^ (7 - j) % 2 = X * 2 ^ (8 - a) / 2 ^ (7 - j) % 2) ∧
  (∀ j, j < s → (X * 2 ^ (8 - a) + v * 2 ^ (8 - a - s)) / 2 ^ (7 - (a + j)) % 2 = v / 2 ^ (s - 1 - j) % 2) ∧
  (∀ j, j < 8 - a - s → (X * 2 ^ (8 - a) + v * 2 ^ (8 - a - s)) / 2 ^ j % 2 = 0) := by decide +kernel
theorem bt_set (b : List Int) (i : Nat) (y : Nat) (hi : i < b.length) (q : Nat) : bt (b.set i (y : Int)) q = if q / 8 = i then y / 2 ^ (7 - q % 8) % 2 else bt b q := by
 unfold bt by_
 by_cases h : q / 8 = i
 ·rw [if_pos h, h]
  simp [List.getD_eq_getElem?_getD, hi]
 ·rw [if_neg h]
  simp only [List.getD_eq_getElem?_getD]
  rw [List.getElem?_set_ne (fun e => h e.symm)]
theorem bt_app (b : List Int) (q : Nat) : bt (b ++ [0]) q = bt b q := by
 unfold bt by_
 simp only [List.getD_eq_getElem?_getD]
 by_cases h : q / 8 < b.length
 ·rw [List.getElem?_append_left h]
 ·rw [List.getElem?_append_right (by omega), List.getElem?_eq_none (l := b) (by omega)]
  by_cases h2 : q / 8 - b.length = 0
  ·rw [h2]; rfl
  ·rw [List.getElem?_eq_none (by simp; omega)]
def room (b : List Int) (m : Nat) : List Int := if m % 8 = 0 then b ++ [0] else b
theorem room_len {b : List Int} {m : Nat} (h : Hold b m) : (room b m).length = m / 8 + 1 := by
 have := h.len
 unfold room
 split
 ·rw [List.length_append, List.length_singleton]; omega
 ·omega
theorem room_bt (b : List Int) (m q : Nat) : bt (room b m) q = bt b q := by
 unfold room
 split
 ·exact bt_app b q
 ·rfl
theorem room_byt {b : List Int} {m : Nat} (h : Hold b m) : Byt (room b m) := by
 unfold room
 split
 ·intro x hx
  rcases List.mem_append.1 hx with hx | hx
  ·exact h.byt x hx
  ·obtain rfl := List.mem_singleton.1 hx; omega
 ·exact h.byt
theorem room_zero {b : List Int} {m : Nat} (h : Hold b m) (q : Nat) (hq : m ≤ q) : bt (room b m) q = 0 := by
 rw [room_bt]
 by_cases hlt : q < 8 * b.length
 ·exact h.zero q hlt hq
 ·unfold bt by_
  rw [List.getD_eq_getElem?_getD, List.getElem?_eq_none (by omega)]
  simp
theorem lay {b : List Int} {m : Nat} (h : Hold b m) (s v : Nat) (hs : m % 8 + s ≤ 8) (h1 : 1 ≤ s) (hm : m + s ≤ 262144) (hv : v < 2 ^ s) :
  ∃ y : Nat, by_ (room b m) (8 * (m / 8)) ||| v * 2 ^ (8 - m % 8 - s) = y ∧ y < 256 ∧ Hold ((room b m).set (m / 8) (y : Int)) (m + s) ∧
   (∀ q, q < m → bt ((room b m).set (m / 8) (y : Int)) q = bt b q) ∧ (∀ j, j < s → bt ((room b m).set (m / 8) (y : Int)) (m + j) = v / 2 ^ (s - 1 - j) % 2) := by
 have hlen := room_len h
 have hx := (by_rd (room_byt h) (8 * (m / 8)) (by omega)).2
 have hz : by_ (room b m) (8 * (m / 8)) % 2 ^ (8 - m % 8) = 0 := by
  refine low_zero _ _ (by omega) hx ?_
  intro j hj hj8
  have := room_zero h (8 * (m / 8) + j) (by omega)
  unfold bt by_ at this
  rw [show (8 * (m / 8) + j) / 8 = m / 8 by omega, show (8 * (m / 8) + j) % 8 = j by omega] at this
  unfold by_
  rw [show 8 * (m / 8) / 8 = m / 8 by omega]
  exact this
 obtain ⟨X, hX⟩ : ∃ X, by_ (room b m) (8 * (m / 8)) = X * 2 ^ (8 - m % 8) := ⟨_, (Nat.div_mul_cancel (Nat.dvd_of_mod_eq_zero hz)).symm⟩
 have hXlt : X < 2 ^ (m % 8) := by
  have e : 2 ^ (m % 8) * 2 ^ (8 - m % 8) = 256 := by rw [← Nat.pow_add, show m % 8 + (8 - m % 8) = 8 by omega]
  rw [hX, ← e] at hx
  exact Nat.lt_of_mul_lt_mul_right hx
 obtain ⟨b1, b2, b3, b4, b5⟩ := byte_all (m % 8) (by omega) s (by omega) X hXlt v hv
 rw [hX, b1]
 have hset := fun q => bt_set (room b m) (m / 8) (X * 2 ^ (8 - m % 8) + v * 2 ^ (8 - m % 8 - s)) (by omega) q
 generalize X * 2 ^ (8 - m % 8) + v * 2 ^ (8 - m % 8 - s) = y at *
 refine ⟨y, rfl, b2, ⟨?_, ?_, hm, ?_⟩, ?_, ?_⟩
 ·intro z hz'
  rcases List.mem_or_eq_of_mem_set hz' with h' | rfl
  ·exact room_byt h z h'
  ·omega
 ·rw [List.length_set, hlen]; omega
 ·intro q hq hmq
  rw [List.length_set, hlen] at hq
  rw [hset, if_pos (by omega)]
  have := b5 (7 - q % 8) (by omega)
  exact this
 ·intro q hq
  rw [hset]
  split
  ·rename_i e
   rw [b3 (q % 8) (by omega), ← hX, ← room_bt b m q]
   unfold bt by_
   rw [e, show 8 * (m / 8) / 8 = m / 8 by omega]
  ·exact room_bt b m q
 ·intro j hj
  rw [hset, if_pos (by omega), show (m + j) % 8 = m % 8 + j by omega]
  exact b4 j hj
theorem mod_bit (t s e : Nat) (h : e < s) : t % 2 ^ s / 2 ^ e % 2 = t / 2 ^ e % 2 := by
 have e1 : 2 ^ s = 2 ^ e * 2 ^ (s - e) := by rw [← Nat.pow_add, show e + (s - e) = s by omega]
 rw [e1, Nat.mod_mul_right_div_self]
 refine Nat.mod_mod_of_dvd _ ?_
 rw [show s - e = (s - e - 1) + 1 by omega, Nat.pow_succ]
 exact Nat.dvd_mul_left 2 _
theorem part_of {n left s : Nat} (hn : n < 2 ^ 64) (hl : left ≤ 64) (hs : s ≤ left) (hs8 : s ≤ 8) :
  Go.bits .and .u8 ((shr .u64 (n : Int) ((left - s : Nat) : Int)) % 256) (shr .u8 255 ((8 - s : Nat) : Int)) = ((n / 2 ^ (left - s) % 2 ^ s : Nat) : Int) := by
 have e1 : min ((left - s : Nat) : Int).toNat IntKind.u64.bits = left - s := by
  rw [Int.toNat_natCast]; exact Nat.min_eq_left (by show _ ≤ 64; omega)
 have e2 : min ((8 - s : Nat) : Int).toNat IntKind.u8.bits = 8 - s := by
  rw [Int.toNat_natCast]; exact Nat.min_eq_left (by show _ ≤ 8; omega)
 unfold shr
 rw [e1, e2, mask8 hs8]
 have e3 : ((n : Nat) : Int) / 2 ^ (left - s) % 256 = ((n / 2 ^ (left - s) % 256 : Nat) : Int) := by
  rw [Int.natCast_emod, Int.natCast_ediv]; simp
 have h4 : n / 2 ^ (left - s) % 256 < 2 ^ 8 := Nat.mod_lt _ (by decide)
 rw [e3, bits_mask .u8 8 (by decide) wraps_u8 s hs8 _ (Int.natCast_nonneg _) (by exact_mod_cast h4)]
 have hd : n / 2 ^ (left - s) % 256 % 2 ^ s = n / 2 ^ (left - s) % 2 ^ s := Nat.mod_mod_of_dvd _ (by
  have : (256 : Nat) = 2 ^ s * 2 ^ (8 - s) := by rw [← Nat.pow_add, show s + (8 - s) = 8 by omega]
  rw [this]; exact Nat.dvd_mul_right _ _)
 rw [← hd]
 simp
theorem or_part {x v e : Nat} (hx : x < 256) (he : e ≤ 8) (hv : v * 2 ^ e < 256) : Go.bits .or .u8 (x : Int) (shl .u8 (v : Int) ((e : Nat) : Int)) = ((x ||| v * 2 ^ e : Nat) : Int) := by
 have e1 : min ((e : Nat) : Int).toNat IntKind.u8.bits = e := by
  rw [Int.toNat_natCast]; exact Nat.min_eq_left (by show _ ≤ 8; omega)
 have hc : (v : Int) * 2 ^ e = ((v * 2 ^ e : Nat) : Int) := by simp
 unfold shl
 rw [e1, hc, wraps_u8 _ (Int.natCast_nonneg _) (by exact_mod_cast hv)]
 exact (bits_nat .u8 8 (by decide) wraps_u8 x (v * 2 ^ e) hx hv).2
theorem put_loop {n : Nat} (hn : n < 2 ^ 64) (left : Nat) : ∀ (b : List Int) (m : Nat), Hold b m → left ≤ 64 → m + left ≤ 262144 →
  ∃ b', Ev (fun k => bits_Bits_Put.l0 k b (m : Int) (n : Int) (left : Int)) (0, b', ((m + left : Nat) : Int)) ∧ Hold b' (m + left) ∧
   (∀ q, q < m → bt b' q = bt b q) ∧ (∀ j, j < left → bt b' (m + j) = n / 2 ^ (left - 1 - j) % 2) := by
 induction left using Nat.strongRecOn with
 | _ left ih =>
  intro b m h hl hm
  by_cases h0 : left = 0
  ·subst h0
   exact ⟨b, ev_stop fun k => by rw [bits_Bits_Put.l0, if_neg (by simp)]; simp, h, fun q hq => rfl, fun j hj => absurd hj (by omega)⟩
  ·have hmod : Int.tmod (m : Int) 8 = ((m % 8 : Nat) : Int) := by rw [tmod_pos (by omega)]; omega
   obtain ⟨s, hs⟩ : ∃ s : Nat, s = min (8 - m % 8) left := ⟨_, rfl⟩
   have hfree : wrap64 (8 - Int.tmod (m : Int) 8) = ((8 - m % 8 : Nat) : Int) := by rw [hmod, w64 (by omega) (by omega)]; omega
   have hmn : mn ((8 - m % 8 : Nat) : Int) (left : Int) = (s : Int) := by
    have := @mn_le ((8 - m % 8 : Nat) : Int) (left : Int)
    omega
   have hs1 : 1 ≤ s ∧ s ≤ left ∧ m % 8 + s ≤ 8 := by omega
   have hlen := room_len h
   have hv : n / 2 ^ (left - s) % 2 ^ s < 2 ^ s := Nat.mod_lt _ (Nat.two_pow_pos s)
   obtain ⟨y, hy, hy8, hh, hold, hnew⟩ := lay h s (n / 2 ^ (left - s) % 2 ^ s) hs1.2.2 hs1.1 (by omega) hv
   have hrd := by_rd (room_byt h) (8 * (m / 8)) (by omega)
   rw [show 8 * (m / 8) / 8 = m / 8 by omega] at hrd
   have hvm : n / 2 ^ (left - s) % 2 ^ s * 2 ^ (8 - m % 8 - s) < 256 := by
    have h1 : n / 2 ^ (left - s) % 2 ^ s * 2 ^ (8 - m % 8 - s) < 2 ^ s * 2 ^ (8 - m % 8 - s) := (Nat.mul_lt_mul_right (Nat.two_pow_pos _)).2 hv
    rw [← Nat.pow_add] at h1
    exact Nat.lt_of_lt_of_le h1 (Nat.pow_le_pow_right (by decide) (by omega) : _ ≤ 2 ^ 8)
   have hor := or_part (v := n / 2 ^ (left - s) % 2 ^ s) (e := 8 - m % 8 - s) hrd.2 (by omega) hvm
   rw [hy] at hor
   have hpart := part_of hn hl hs1.2.1 (show s ≤ 8 by omega)
   obtain ⟨b', hev, hh', hold', hnew'⟩ := ih (left - s) (by omega) ((room b m).set (m / 8) (y : Int)) (m + s) hh (by omega) (by omega)
   rw [show m + s + (left - s) = m + left by omega] at hev hh'
   refine ⟨b', ?_, hh', fun q hq => by rw [hold' q (by omega), hold q hq], ?_⟩
   ·have key : Ev (fun k => bits_Bits_Put.l0 k ((room b m).set (wrap64 (((room b m).length : Int) - 1)).toNat (Go.bits .or .u8 (rd (room b m) (wrap64 (((room b m).length : Int) - 1))) (shl .u8 (Go.bits .and .u8 ((shr .u64 (n : Int) (wrap64 ((left : Int) - (s : Int)))) % 256) (shr .u8 255 (wrap64 (8 - (s : Int))))) (wrap64 (((8 - m % 8 : Nat) : Int) - (s : Int)))))) (wrap64 ((m : Int) + (s : Int))) (n : Int) (wrap64 ((left : Int) - (s : Int)))) (0, b', ((m + left : Nat) : Int)) := by
     rw [w64 (x := (left : Int) - (s : Int)) (by omega) (by omega), w64 (x := 8 - (s : Int)) (by omega) (by omega), w64 (x := ((8 - m % 8 : Nat) : Int) - (s : Int)) (by omega) (by omega), w64 (x := (m : Int) + (s : Int)) (by omega) (by omega), w64 (x := ((room b m).length : Int) - 1) (by omega) (by omega)]
     rw [show ((left : Int) - (s : Int)) = ((left - s : Nat) : Int) by omega, show 8 - (s : Int) = ((8 - s : Nat) : Int) by omega, show ((8 - m % 8 : Nat) : Int) - (s : Int) = ((8 - m % 8 - s : Nat) : Int) by omega, show ((room b m).length : Int) - 1 = ((m / 8 : Nat) : Int) by omega, hpart, hrd.1, hor, Int.toNat_natCast, show (m : Int) + (s : Int) = ((m + s : Nat) : Int) by omega]
     exact hev
    have hz1 : 0 ≤ wrap64 ((left : Int) - (s : Int)) := by rw [w64 (by omega) (by omega)]; omega
    have hz2 : 0 ≤ wrap64 (8 - (s : Int)) := by rw [w64 (by omega) (by omega)]; omega
    have hz3 : 0 ≤ wrap64 (((room b m).length : Int) - 1) ∧ wrap64 (((room b m).length : Int) - 1) < ((room b m).length : Int) := by rw [w64 (by omega) (by omega)]; omega
    have hz4 : 0 ≤ wrap64 (((8 - m % 8 : Nat) : Int) - (s : Int)) := by rw [w64 (by omega) (by omega)]; omega
    refine ev_succ (fun k => by rw [bits_Bits_Put.l0]) ?_
    simp only [hfree, hmn]
    refine ev_pos (by omega) ?_
    by_cases hm8 : m % 8 = 0
    ·have er : b ++ [0] = room b m := by unfold room; rw [if_pos hm8]
     have hbl := h.len
     refine ev_pos (by omega) (ev_pos (by omega) ?_)
     simp only [Option.bind_some, er]
     exact ev_pos hz1 (ev_pos hz2 (ev_pos hz3.1 (ev_pos hz3.2 (ev_pos hz4 key))))
    ·have er : room b m = b := by unfold room; rw [if_neg hm8]
     rw [er] at key hz3
     refine ev_neg (by omega) ?_
     exact ev_pos hz1 (ev_pos hz2 (ev_pos hz3.1 (ev_pos hz3.2 (ev_pos hz4 key))))
   ·intro j hj
    by_cases hjs : j < s
    ·rw [hold' (m + j) (by omega), hnew j hjs, mod_bit _ _ _ (by omega), Nat.div_div_eq_div_mul, ← Nat.pow_add, show left - s + (s - 1 - j) = left - 1 - j by omega]
    ·have := hnew' (j - s) (by omega)
     rw [show m + s + (j - s) = m + j by omega] at this
     rw [this, show left - s - 1 - (j - s) = left - 1 - j by omega]
def putC (m : Nat) (n w : Int) : Int := if w < 0 ∨ w > 64 then 20 else if ¬ n < 2 ^ w.toNat then 1 else if (m : Int) + w > 262144 then 3 else 0
theorem put_ev {b : List Int} {m : Nat} (h : Hold b m) (n w : Int) (hn : 0 ≤ n ∧ n < 2 ^ 64) (hw : -9223372036854775808 ≤ w ∧ w ≤ 9223372036854775807) :
  ∃ (b' : List Int) (m' : Nat), Ev (fun k => bits_Bits_Put.f k b (m : Int) n w) (putC m n w, b', (m' : Int)) ∧ Hold b' m' ∧ (putC m n w ≠ 0 → b' = b ∧ m' = m) ∧
   (putC m n w = 0 → m' = m + w.toNat ∧ (∀ q, q < m → bt b' q = bt b q) ∧ (∀ j, j < w.toNat → bt b' (m + j) = n.toNat / 2 ^ (w.toNat - 1 - j) % 2)) := by
 have hm := h.max
 have now : ∀ {c x : Int} {y : List Int × Int}, Ev (fun _ : Nat => some (c, y)) (c, y) := fun {_ _ _} => ⟨0, fun _ _ => rfl⟩
 have stay : ∀ {c : Int}, c ≠ 0 → putC m n w = c → Ev (fun k => bits_Bits_Put.f k b (m : Int) n w) (c, b, (m : Int)) →
   ∃ (b' : List Int) (m' : Nat), Ev (fun k => bits_Bits_Put.f k b (m : Int) n w) (putC m n w, b', (m' : Int)) ∧ Hold b' m' ∧ (putC m n w ≠ 0 → b' = b ∧ m' = m) ∧
   (putC m n w = 0 → m' = m + w.toNat ∧ (∀ q, q < m → bt b' q = bt b q) ∧ (∀ j, j < w.toNat → bt b' (m + j) = n.toNat / 2 ^ (w.toNat - 1 - j) % 2)) := by
  intro c hc e hev
  rw [e]
  exact ⟨b, m, hev, h, fun _ => ⟨rfl, rfl⟩, fun h0 => absurd h0 hc⟩
 by_cases h1 : w < 0
 ·refine stay (c := 20) (by decide) (by unfold putC; rw [if_pos (Or.inl h1)]) ?_
  unfold bits_Bits_Put.f
  exact ev_pos h1 (ev_succ (f := fun _ => some (20, b, (m : Int))) (fun k => by rw [bits_Bits_Put.j0, if_pos rfl]) ⟨0, fun _ _ => rfl⟩)
 ·by_cases h2 : w > 64
  ·refine stay (c := 20) (by decide) (by unfold putC; rw [if_pos (Or.inr h2)]) ?_
   unfold bits_Bits_Put.f
   exact ev_neg h1 (ev_succ (f := fun _ => some (20, b, (m : Int))) (fun k => by rw [bits_Bits_Put.j0, if_pos (by simpa using h2)]) ⟨0, fun _ _ => rfl⟩)
  ·obtain ⟨W, rfl⟩ : ∃ W : Nat, w = (W : Int) := ⟨w.toNat, by omega⟩
   obtain ⟨N, rfl⟩ : ∃ N : Nat, n = (N : Int) := ⟨n.toNat, by omega⟩
   have hW : W ≤ 64 := by omega
   have hN : N < 2 ^ 64 := by have := hn.2; exact_mod_cast this
   have hpC : putC m (N : Int) (W : Int) = if ¬ N < 2 ^ W then 1 else if (m : Int) + (W : Int) > 262144 then 3 else 0 := by
    unfold putC
    rw [if_neg (by omega), Int.toNat_natCast]
    have : ((N : Int) < 2 ^ W) ↔ N < 2 ^ W := by exact_mod_cast Iff.rfl
    simp only [this]
   have hj0 : ∀ {r : Int × List Int × Int}, Ev (fun k => bits_Bits_Put.j1 k b (m : Int) (N : Int) (W : Int) (!decide (N < 2 ^ W))) r → Ev (fun k => bits_Bits_Put.f k b (m : Int) (N : Int) (W : Int)) r := by
    intro r hr
    unfold bits_Bits_Put.f
    refine ev_neg h1 (ev_succ (fun k => by rw [bits_Bits_Put.j0, if_neg (by simpa using h2)]) ?_)
    by_cases h3 : W < 64
    ·refine ev_pos (by omega) (ev_pos (by omega) ?_)
     have e : (shr .u64 (N : Int) (W : Int) != 0) = !decide (N < 2 ^ W) := by
      unfold shr
      have e1 : min (W : Int).toNat IntKind.u64.bits = W := by rw [Int.toNat_natCast]; exact Nat.min_eq_left (by show _ ≤ 64; omega)
      rw [e1]
      have e2 : (N : Int) / 2 ^ W = ((N / 2 ^ W : Nat) : Int) := by rw [Int.natCast_ediv]; simp
      rw [e2]
      by_cases h4 : N < 2 ^ W
      ·rw [Nat.div_eq_of_lt h4]; simp [h4]
      ·have : 0 < N / 2 ^ W := Nat.div_pos (by omega) (Nat.two_pow_pos W)
       simp only [h4, decide_false, Bool.not_false, bne_iff_ne, ne_eq]
       omega
     rw [e]
     exact hr
    ·obtain rfl : W = 64 := by omega
     have e : (!decide (N < 2 ^ 64)) = false := by simp [hN]
     rw [e] at hr
     exact ev_neg (by omega) hr
   by_cases h5 : N < 2 ^ W
   ·have e5 : (!decide (N < 2 ^ W)) = false := by simp [h5]
    rw [e5] at hj0
    by_cases h6 : (m : Int) + (W : Int) > 262144
    ·refine stay (c := 3) (by decide) (by rw [hpC, if_neg (by simpa using h5), if_pos h6]) (hj0 ?_)
     exact ev_succ (f := fun _ => some (3, b, (m : Int))) (fun k => by rw [bits_Bits_Put.j1, if_neg (by simp), w64 (x := 262144 - (W : Int)) (by omega) (by omega), if_pos (by omega)]) ⟨0, fun _ _ => rfl⟩
    ·have hc : putC m (N : Int) (W : Int) = 0 := by rw [hpC, if_neg (by simpa using h5), if_neg h6]
     obtain ⟨b', hev, hh, hold, hnew⟩ := put_loop hN W b m h hW (by omega)
     rw [hc]
     refine ⟨b', m + W, hj0 (ev_succ (fun k => by rw [bits_Bits_Put.j1, if_neg (by simp), w64 (x := 262144 - (W : Int)) (by omega) (by omega), if_neg (by omega)]) hev), hh, fun h => absurd rfl h, fun _ => ⟨by simp, hold, fun j hj => ?_⟩⟩
     rw [Int.toNat_natCast] at hj ⊢
     rw [Int.toNat_natCast]
     exact hnew j hj
   ·have e5 : (!decide (N < 2 ^ W)) = true := by simp [h5]
    rw [e5] at hj0
    refine stay (c := 1) (by decide) (by rw [hpC, if_pos h5]) (hj0 ?_)
    exact ev_succ (f := fun _ => some (1, b, (m : Int))) (fun k => by rw [bits_Bits_Put.j1, if_pos rfl]) ⟨0, fun _ _ => rfl⟩
theorem hold_ext {b c : List Int} {m : Nat} (h : Hold b m) (h' : Hold c m) (hb : ∀ q, q < m → bt b q = bt c q) : b = c := by
 have hl : b.length = c.length := by rw [h.len, h'.len]
 have hall : ∀ q, q < 8 * b.length → bt b q = bt c q := by
  intro q hq
  by_cases hm : q < m
  ·exact hb q hm
  ·rw [h.zero q hq (by omega), h'.zero q (by omega) (by omega)]
 refine List.ext_getElem hl ?_
 intro i hi hi'
 obtain ⟨e1, l1⟩ := by_rd h.byt (8 * i) (by omega)
 obtain ⟨e2, l2⟩ := by_rd h'.byt (8 * i) (by omega)
 have g1 : b.getD i 0 = b[i] := getD_lt b _ _ hi
 have g2 : c.getD i 0 = c[i] := getD_lt c _ _ hi'
 have hx : by_ b (8 * i) = by_ c (8 * i) := by
  have bits : ∀ j, j < 8 → by_ b (8 * i) / 2 ^ (7 - j) % 2 = by_ c (8 * i) / 2 ^ (7 - j) % 2 := by
   intro j hj
   have := hall (8 * i + j) (by omega)
   unfold bt by_ at this
   unfold by_
   rw [show (8 * i + j) / 8 = i by omega, show (8 * i + j) % 8 = j by omega] at this
   rw [show 8 * i / 8 = i by omega]
   exact this
  have b0 := bits 0 (by omega)
  have b1 := bits 1 (by omega)
  have b2 := bits 2 (by omega)
  have b3 := bits 3 (by omega)
  have b4 := bits 4 (by omega)
  have b5 := bits 5 (by omega)
  have b6 := bits 6 (by omega)
  have b7 := bits 7 (by omega)
  simp at b0 b1 b2 b3 b4 b5 b6 b7
  omega
 have m1 := h.byt _ (List.getElem_mem hi)
 have m2 := h'.byt _ (List.getElem_mem hi')
 unfold by_ at hx
 rw [show 8 * i / 8 = i by omega, g1, g2] at hx
 omega
end Go.Proofs.Ythkpnnbjcendcaa.Pure
end
section
namespace Go.Proofs.Ythkpnnbjcendcaa.Pure
open Go.RowKit Go.Proofs.Ythkpnnbjcendcaa.X Go.Proofs.Ythkpnnbjcendcaa.Pl Go.Proofs.YthkpnnbjcendcaaW.PrintWords Go.Proofs.YthkpnnbjcendcaaW.PrintLast Go.Proofs.YthkpnnbjcendcaaW.PrintMore
def nb (n w : Nat) : List Bool := (List.range w).map fun j => decide (n / 2 ^ (w - 1 - j) % 2 = 1)
theorem nb_length (n w : Nat) : (nb n w).length = w := by simp [nb]
def b2 (b : Bool) : Nat := if b then 1 else 0
theorem b2_lt (b : Bool) : b2 b < 2 := by cases b <;> decide
def Holds (b : List Int) (L : List Bool) : Prop := Hold b L.length ∧ ∀ q, q < L.length → bt b q = b2 (L.getD q false)
theorem holds_nil : Holds [] [] := ⟨hold_nil, fun q hq => absurd hq (by simp)⟩
def putL (L : List Bool) (n w : Int) : List Bool := if putC L.length n w = 0 then L ++ nb n.toNat w.toNat else L
theorem nb_getD {n w j : Nat} (h : j < w) : b2 ((nb n w).getD j false) = n / 2 ^ (w - 1 - j) % 2 := by
 have : (nb n w).getD j false = decide (n / 2 ^ (w - 1 - j) % 2 = 1) := by
  rw [List.getD_eq_getElem?_getD]
  simp [nb, h]
 rw [this]
 unfold b2
 have := Nat.mod_lt (n / 2 ^ (w - 1 - j)) (show 0 < 2 by decide)
 split <;> simp_all
theorem put_evL {b : List Int} {L : List Bool} (h : Holds b L) (n w : Int) (hn : 0 ≤ n ∧ n < 2 ^ 64) (hw : -9223372036854775808 ≤ w ∧ w ≤ 9223372036854775807) :
  ∃ b', Ev (fun k => bits_Bits_Put.f k b (L.length : Int) n w) (putC L.length n w, b', ((putL L n w).length : Int)) ∧ Holds b' (putL L n w) := by
 obtain ⟨b', m', hev, hh, hno, hyes⟩ := put_ev h.1 n w hn hw
 unfold putL
 by_cases h0 : putC L.length n w = 0
 ·obtain ⟨rfl, hold, hnew⟩ := hyes h0
  rw [if_pos h0]
  have hl : (L ++ nb n.toNat w.toNat).length = L.length + w.toNat := by rw [List.length_append, nb_length]
  refine ⟨b', by rw [hl]; exact hev, ?_⟩
  unfold Holds
  rw [hl]
  refine ⟨hh, fun q hq => ?_⟩
  by_cases hq1 : q < L.length
  ·rw [hold q hq1, h.2 q hq1, List.getD_eq_getElem?_getD, List.getD_eq_getElem?_getD, List.getElem?_append_left hq1]
  ·have e := hnew (q - L.length) (by omega)
   rw [show L.length + (q - L.length) = q by omega] at e
   rw [e, List.getD_eq_getElem?_getD, List.getElem?_append_right (by omega), ← List.getD_eq_getElem?_getD, nb_getD (by omega)]
 ·obtain ⟨rfl, rfl⟩ := hno h0
  rw [if_neg h0]
  exact ⟨_, hev, h⟩
def byteOf (f : Nat → Bool) : Nat := b2 (f 0) * 128 + b2 (f 1) * 64 + b2 (f 2) * 32 + b2 (f 3) * 16 + b2 (f 4) * 8 + b2 (f 5) * 4 + b2 (f 6) * 2 + b2 (f 7)
theorem byteOf_bit (f : Nat → Bool) (j : Nat) (hj : j < 8) : byteOf f / 2 ^ (7 - j) % 2 = b2 (f j) := by
 unfold byteOf
 have h0 := b2_lt (f 0)
 have h1 := b2_lt (f 1)
 have h2 := b2_lt (f 2)
 have h3 := b2_lt (f 3)
 have h4 := b2_lt (f 4)
 have h5 := b2_lt (f 5)
 have h6 := b2_lt (f 6)
 have h7 := b2_lt (f 7)
 rcases (by omega : j = 0 ∨ j = 1 ∨ j = 2 ∨ j = 3 ∨ j = 4 ∨ j = 5 ∨ j = 6 ∨ j = 7) with rfl | rfl | rfl | rfl | rfl | rfl | rfl | rfl <;> simp <;> omega
theorem byteOf_lt (f : Nat → Bool) : byteOf f < 256 := by
 unfold byteOf
 have h0 := b2_lt (f 0)
 have h1 := b2_lt (f 1)
 have h2 := b2_lt (f 2)
 have h3 := b2_lt (f 3)
 have h4 := b2_lt (f 4)
 have h5 := b2_lt (f 5)
 have h6 := b2_lt (f 6)
 have h7 := b2_lt (f 7)
 omega
def pack (L : List Bool) : List Int := (List.range ((L.length + 7) / 8)).map fun i => (byteOf (fun j => L.getD (8 * i + j) false) : Int)
theorem pack_length (L : List Bool) : (pack L).length = (L.length + 7) / 8 := by simp [pack]
theorem pack_bt (L : List Bool) (q : Nat) (hq : q < 8 * (pack L).length) : bt (pack L) q = b2 (L.getD q false) := by
 unfold bt by_
 rw [pack_length] at hq
 have hi : q / 8 < (L.length + 7) / 8 := by omega
 have : (pack L).getD (q / 8) 0 = (byteOf (fun j => L.getD (8 * (q / 8) + j) false) : Int) := by
  rw [List.getD_eq_getElem?_getD]
  unfold pack
  simp [hi]
 rw [this, Int.toNat_natCast, byteOf_bit _ _ (by omega), show 8 * (q / 8) + q % 8 = q by omega]
theorem holds_pack {L : List Bool} (h : L.length ≤ 262144) : Holds (pack L) L := by
 refine ⟨⟨?_, pack_length L, h, ?_⟩, ?_⟩
 ·intro x hx
  unfold pack at hx
  obtain ⟨i, _, rfl⟩ := List.mem_map.1 hx
  have := byteOf_lt (fun j => L.getD (8 * i + j) false)
  omega
 ·intro q hq hm
  rw [pack_bt L q hq, List.getD_eq_getElem?_getD, List.getElem?_eq_none (by omega)]
  rfl
 ·intro q hq
  exact pack_bt L q (by rw [pack_length]; omega)
theorem holds_eq {b : List Int} {L : List Bool} (h : Holds b L) : b = pack L := by
 have hp := holds_pack h.1.max
 exact hold_ext h.1 hp.1 (fun q hq => by rw [h.2 q hq, hp.2 q hq])
end Go.Proofs.Ythkpnnbjcendcaa.Pure
end
section
namespace Go.Proofs.Ythkpnnbjcendcaa.Sp
open Go.RowKit Go.Proofs.YthkpnnbjcendcaaW.PrintWords Go.Proofs.YthkpnnbjcendcaaW.PrintLast Go.Proofs.YthkpnnbjcendcaaW.PrintMore
structure Res where
 foot : Nat → Prop
 holds : World → Prop
structure Own (base : Nat) (w : World) (r : Res) : Prop where
 lo : ∀ k, r.foot k → base ≤ k
 hi : ∀ k, r.foot k → k < w.heap.size
 tell : ∀ w', (∀ k, r.foot k → w'.heap[k]? = w.heap[k]?) → r.holds w'
def Sep (base : Nat) (w : World) : List Res → Prop
 | [] => True
 | r :: rs => Own base w r ∧ (∀ q ∈ rs, ∀ k, r.foot k → ¬ q.foot k) ∧ Sep base w rs
def Stay (w w' : World) (S : Nat → Prop) : Prop := ∀ k, k < w.heap.size → ¬ S k → w'.heap[k]? = w.heap[k]?
theorem Stay.of_kept {w w' : World} {S : Nat → Prop} (h : Kept w w' S) : Stay w w' S := h.2
theorem Stay.of_below {w w' : World} (h : Below w.heap.size w w') (S : Nat → Prop) : Stay w w' S := fun k hk _ => h.block k hk
section
variable {base : Nat} {w w' : World} {r r' a b c d : Res} {rs rs' : List Res} {S : Nat → Prop}
theorem Own.now (h : Own base w r) : r.holds w := h.tell w (fun _ _ => rfl)
theorem Own.move (h : Own base w r) (hm : ∀ k, r.foot k → w'.heap[k]? = w.heap[k]?) : Own base w' r :=
 ⟨h.lo, fun k hk => by
  have h1 := hm k hk
  rw [Array.getElem?_eq_getElem (h.hi k hk)] at h1
  exact (Array.getElem?_eq_some_iff.1 h1).1, fun w2 h2 => h.tell w2 (fun k hk => (h2 k hk).trans (hm k hk))⟩
theorem Own.kept (h : Own base w r) (hk : Stay w w' S) (hne : ∀ k, r.foot k → ¬ S k) : Own base w' r :=
 h.move (fun k hf => hk k (h.hi k hf) (hne k hf))
theorem Own.lower {base' : Nat} (h : Own base w r) (hb : base' ≤ base) : Own base' w r := ⟨fun k hk => Nat.le_trans hb (h.lo k hk), h.hi, h.tell⟩
theorem Own.imp (h : Own base w r) (hf : r'.foot = r.foot) (ht : ∀ w', r.holds w' → r'.holds w') : Own base w r' :=
 ⟨fun k hk => h.lo k (hf ▸ hk), fun k hk => h.hi k (hf ▸ hk), fun w2 h2 => ht w2 (h.tell w2 (fun k hk => h2 k (hf ▸ hk)))⟩
theorem Sep.nil (base : Nat) (w : World) : Sep base w [] := trivial
theorem Sep.own (h : Sep base w (r :: rs)) : Own base w r := h.1
theorem Sep.now (h : Sep base w (r :: rs)) : r.holds w := h.1.now
theorem Sep.drop (h : Sep base w (r :: rs)) : Sep base w rs := h.2.2
theorem Sep.apart (h : Sep base w (r :: rs)) : ∀ q ∈ rs, ∀ k, r.foot k → ¬ q.foot k := h.2.1
theorem Sep.hi (h : Sep base w rs) : ∀ q ∈ rs, ∀ k, q.foot k → k < w.heap.size := by
 induction rs with
 | nil => intro q hq; cases hq
 | cons r rs ih =>
  intro q hq
  rcases List.mem_cons.1 hq with rfl | hq
  ·exact h.1.hi
  ·exact ih h.2.2 q hq
theorem Sep.kept (h : Sep base w rs) (hk : Stay w w' S) (hne : ∀ q ∈ rs, ∀ k, q.foot k → ¬ S k) : Sep base w' rs := by
 induction rs with
 | nil => trivial
 | cons r rs ih => exact ⟨h.1.kept hk (hne r List.mem_cons_self), h.2.1, ih h.2.2 (fun q hq => hne q (List.mem_cons_of_mem _ hq))⟩
theorem Sep.below (h : Sep base w rs) (hb : Below w.heap.size w w') : Sep base w' rs := h.kept (Stay.of_below hb (fun _ => False)) (fun _ _ _ _ hf => hf)
theorem Sep.call (h : Sep base w (r :: rs)) (hk : Stay w w' r.foot) (ho : Own base w' r') (hf : ∀ k, r'.foot k → r.foot k ∨ w.heap.size ≤ k) : Sep base w' (r' :: rs) :=
 ⟨ho, fun q hq k hk' hq' => (hf k hk').elim (fun h1 => h.2.1 q hq k h1 hq') (fun h2 => by have := h.2.2.hi q hq k hq'; omega), h.2.2.kept hk (fun q hq k hq' hr => h.2.1 q hq k hr hq')⟩
theorem Sep.new (h : Sep base w rs) (hb : Below w.heap.size w w') (ho : Own base w' r) (hf : ∀ k, r.foot k → w.heap.size ≤ k) : Sep base w' (r :: rs) :=
 ⟨ho, fun q hq k hk hq' => by have := h.hi q hq k hq'; have := hf k hk; omega, h.below hb⟩
theorem sep_alloc (h : Sep base w rs) (o : Obj) : Sep base (w.alloc o) rs := h.below (below_alloc (Below.refl _ _) o)
theorem sep_drew (h : Sep base w rs) : Sep base w.drew rs := h.below (below_drew (Below.refl _ _))
theorem sep_drewN (h : Sep base w rs) (m : Nat) : Sep base (w.drewN m) rs := h.below (pw_below_drewN (Below.refl _ _) m)
theorem Sep.perm (h : Sep base w rs) (hp : rs.Perm rs') : Sep base w rs' := by
 induction hp with
 | nil => trivial
 | cons x hp ih => exact ⟨h.1, fun q hq => h.2.1 q (hp.mem_iff.2 hq), ih h.2.2⟩
 | swap x y l =>
  refine ⟨h.2.2.1 |> fun _ => h.2.2.1, ?_, h.1, ?_, h.2.2.2.2⟩
  ·intro q hq k hk hq'
   rcases List.mem_cons.1 hq with rfl | hq
   ·exact h.2.1 x List.mem_cons_self k hq' hk
   ·exact h.2.2.2.1 q hq k hk hq'
  ·exact fun q hq => h.2.1 q (List.mem_cons_of_mem _ hq)
 | trans _ _ ih1 ih2 => exact ih2 (ih1 h)
theorem Sep.p2 (h : Sep base w (a :: b :: rs)) : Sep base w (b :: a :: rs) := h.perm (List.Perm.swap _ _ _)
theorem Sep.p3 (h : Sep base w (a :: b :: c :: rs)) : Sep base w (c :: a :: b :: rs) := (h.perm ((List.Perm.swap _ _ _).cons _)).p2
theorem Sep.p4 (h : Sep base w (a :: b :: c :: d :: rs)) : Sep base w (d :: a :: b :: c :: rs) := (h.perm (((List.Perm.swap _ _ _).cons _).cons _)).p3
theorem Sep.drop2 (h : Sep base w (a :: b :: rs)) : Sep base w (a :: rs) := h.p2.drop
theorem Sep.drop3 (h : Sep base w (a :: b :: c :: rs)) : Sep base w (a :: b :: rs) := h.p3.drop
theorem Sep.drop4 (h : Sep base w (a :: b :: c :: d :: rs)) : Sep base w (a :: b :: c :: rs) := h.p4.drop
end
def box (g : Nat) (cs : Array Value) (t : Nat) : Res := ⟨fun k => k = g, fun w => w.heap[g]? = some (.cells cs t (0, 0))⟩
section
variable {base g t : Nat} {cs cs' : Array Value} {w w' : World} {rs : List Res}
theorem Own.box (hb : base ≤ g) (h : w.heap[g]? = some (.cells cs t (0, 0))) : Own base w (box g cs t) :=
 ⟨fun k hk => by rw [hk]; exact hb, fun k hk => by rw [hk]; exact blk_lt h, fun w' hw => (hw g rfl).trans h⟩
theorem Sep.blk (h : Sep base w (box g cs t :: rs)) : w.heap[g]? = some (.cells cs t (0, 0)) := h.now
theorem Sep.ge (h : Sep base w (box g cs t :: rs)) : base ≤ g := h.1.lo g rfl
theorem Sep.cell (h : Sep base w (box g cs t :: rs)) (i : Nat) : w.cell? ⟨g, i, none⟩ = cs[i]? := blk_cell h.blk i
theorem Sep.free (h : Sep base w (box g cs t :: rs)) (i : Nat) : w.frozen? ⟨g, i, none⟩ = false := blk_frozen h.blk i
theorem Sep.newbox (h : Sep base w rs) (hb : Below w.heap.size w w') (hg : w.heap.size ≤ g) (hB : base ≤ w.heap.size) (hx : w'.heap[g]? = some (.cells cs t (0, 0))) : Sep base w' (Sp.box g cs t :: rs) :=
 h.new hb (Own.box (Nat.le_trans hB hg) hx) (fun k hk => by rw [hk]; exact hg)
theorem Sep.set (h : Sep base w (box g cs t :: rs)) (i : Nat) (u : Value) (e : cs.setIfInBounds i u = cs') : Sep base (w.setCell ⟨g, i, none⟩ u) (Sp.box g cs' t :: rs) := by
 have hk : Kept w (w.setCell ⟨g, i, none⟩ u) (fun k => k = g) := Kept.setCell (p := ⟨g, i, none⟩) (Kept.refl w (fun k => k = g)) (.inl rfl) u
 exact h.call (Stay.of_kept hk) (Own.box h.ge (blk_put h.blk i u e)) (fun k hk => .inl hk)
end
theorem Sep.c10 {base g t : Nat} {w : World} {rs : List Res} {x0 : Value} (h : Sep base w (box g #[x0] t :: rs)) : w.cell? ⟨g, 0, none⟩ = some x0 := (Sep.cell h 0).trans rfl
theorem Sep.c20 {base g t : Nat} {w : World} {rs : List Res} {x0 x1 : Value} (h : Sep base w (box g #[x0, x1] t :: rs)) : w.cell? ⟨g, 0, none⟩ = some x0 := (Sep.cell h 0).trans rfl
theorem Sep.c21 {base g t : Nat} {w : World} {rs : List Res} {x0 x1 : Value} (h : Sep base w (box g #[x0, x1] t :: rs)) : w.cell? ⟨g, 1, none⟩ = some x1 := (Sep.cell h 1).trans rfl
theorem Sep.c30 {base g t : Nat} {w : World} {rs : List Res} {x0 x1 x2 : Value} (h : Sep base w (box g #[x0, x1, x2] t :: rs)) : w.cell? ⟨g, 0, none⟩ = some x0 := (Sep.cell h 0).trans rfl
theorem Sep.c31 {base g t : Nat} {w : World} {rs : List Res} {x0 x1 x2 : Value} (h : Sep base w (box g #[x0, x1, x2] t :: rs)) : w.cell? ⟨g, 1, none⟩ = some x1 := (Sep.cell h 1).trans rfl
theorem Sep.c32 {base g t : Nat} {w : World} {rs : List Res} {x0 x1 x2 : Value} (h : Sep base w (box g #[x0, x1, x2] t :: rs)) : w.cell? ⟨g, 2, none⟩ = some x2 := (Sep.cell h 2).trans rfl
theorem Sep.s10 {base g t : Nat} {w : World} {rs : List Res} {x0 : Value} (h : Sep base w (box g #[x0] t :: rs)) (u : Value) : Sep base (w.setCell ⟨g, 0, none⟩ u) (box g #[u] t :: rs) := h.set 0 u rfl
theorem Sep.s20 {base g t : Nat} {w : World} {rs : List Res} {x0 x1 : Value} (h : Sep base w (box g #[x0, x1] t :: rs)) (u : Value) : Sep base (w.setCell ⟨g, 0, none⟩ u) (box g #[u, x1] t :: rs) := h.set 0 u rfl
theorem Sep.s21 {base g t : Nat} {w : World} {rs : List Res} {x0 x1 : Value} (h : Sep base w (box g #[x0, x1] t :: rs)) (u : Value) : Sep base (w.setCell ⟨g, 1, none⟩ u) (box g #[x0, u] t :: rs) := h.set 1 u rfl
theorem Sep.s31 {base g t : Nat} {w : World} {rs : List Res} {x0 x1 x2 : Value} (h : Sep base w (box g #[x0, x1, x2] t :: rs)) (u : Value) : Sep base (w.setCell ⟨g, 1, none⟩ u) (box g #[x0, u, x2] t :: rs) := h.set 1 u rfl
theorem Sep.s32 {base g t : Nat} {w : World} {rs : List Res} {x0 x1 x2 : Value} (h : Sep base w (box g #[x0, x1, x2] t :: rs)) (u : Value) : Sep base (w.setCell ⟨g, 2, none⟩ u) (box g #[x0, x1, u] t :: rs) := h.set 2 u rfl
def Turned (w0 w w' : World) (F : Nat → Prop) (mk : (Nat → Prop) → Res) : Prop :=
 ∃ F', Own w0.heap.size w' (mk F') ∧ (∀ k, (mk F').foot k → F k ∨ w.heap.size ≤ k) ∧ Below w0.heap.size w0 w' ∧ Stay w w' F
section
variable {w0 w w' : World} {r : Res} {rs : List Res} {F : Nat → Prop} {mk : (Nat → Prop) → Res}
theorem Turned.below (h : Turned w0 w w' F mk) : Below w0.heap.size w0 w' := by obtain ⟨_, _, _, h, _⟩ := h; exact h
theorem Turned.kept (h : Turned w0 w w' F mk) : Stay w w' F := by obtain ⟨_, _, _, _, h⟩ := h; exact h
theorem Turned.sep (h : Turned w0 w w' F mk) (hs : Sep w0.heap.size w (r :: rs)) (hf : r.foot = F) : ∃ F', Sep w0.heap.size w' (mk F' :: rs) := by
 subst hf
 obtain ⟨F', h1, h2, h3, h4⟩ := h
 exact ⟨F', hs.call h4 h1 h2⟩
theorem Turned.mk_ {F' : Nat → Prop} (h1 : Own w0.heap.size w' (mk F')) (h2 : ∀ k, (mk F').foot k → F k ∨ w.heap.size ≤ k) (h3 : Below w0.heap.size w0 w') (h4 : Stay w w' F) : Turned w0 w w' F mk := ⟨F', h1, h2, h3, h4⟩
end
def frameR (base : Nat) (w : World) (F : Nat → Prop) : Res := ⟨fun k => base ≤ k ∧ k < w.heap.size ∧ ¬ F k, fun w' => ∀ k, base ≤ k → k < w.heap.size → ¬ F k → w'.heap[k]? = w.heap[k]?⟩
section
variable {base : Nat} {w0 w w' : World} {r : Res} {rs : List Res} {F : Nat → Prop} {mk : (Nat → Prop) → Res}
theorem Sep.start (h : Own base w r) : Sep base w [r, frameR base w r.foot] :=
 ⟨h, fun q hq k hk hq' => by
  obtain rfl := List.mem_singleton.1 hq
  exact hq'.2.2 hk, ⟨fun _ hk => hk.1, fun _ hk => hk.2.1, fun w' hw k h1 h2 h3 => hw k ⟨h1, h2, h3⟩⟩, (fun q hq => by cases hq), trivial⟩
theorem Turned.of_sep {F' : Nat → Prop} (h : Sep w0.heap.size w' [mk F', frameR w0.heap.size w F]) (hB : Below w0.heap.size w0 w) (hB' : Below w0.heap.size w0 w') : Turned w0 w w' F mk := by
 refine ⟨F', h.own, fun k hk => ?_, hB', fun k hk hn => ?_⟩
 ·by_cases hF : F k
  ·exact .inl hF
  ·refine .inr (Nat.le_of_not_lt fun hlt => h.apart _ (List.mem_singleton.2 rfl) k hk ⟨h.own.lo k hk, hlt, hF⟩)
 ·by_cases hb : w0.heap.size ≤ k
  ·exact h.drop.now k hb hk hn
  ·exact (hB'.block k (by omega)).trans (hB.block k (by omega)).symm
end
def row {α : Type} (F : Nat → Prop) (d : Kd α) (e base : Nat) (v : Value) (xs : List α) : Res := ⟨F, fun w => d.R e w base F v xs⟩
section
variable {α : Type} {d : Kd α} {e base : Nat} {v : Value} {xs : List α} {w w' : World} {F ok : Nat → Prop} {rs : List Res}
theorem Own.row (h : d.R e w base ok v xs) : ∃ F, Own base w (row F d e base v xs) ∧ ∀ k, F k → ok k :=
 ⟨fun k => ok k ∧ base ≤ k ∧ k < w.heap.size, ⟨fun _ hk => hk.2.1, fun _ hk => hk.2.2, fun w' hw => Kd.R_move (Kd.R_mono (Kd.R_bound h) (fun k hk => ⟨hk.1, hk.2.1, hk.2.2.1⟩)) (fun k hk => hw k hk)⟩, fun _ hk => hk.1⟩
theorem Sep.newrow (h : Sep base w rs) (hb : Below w.heap.size w w') (hB : base ≤ w.heap.size) (hr : d.R e w' w.heap.size ok v xs) : ∃ F, Sep base w' (Sp.row F d e base v xs :: rs) := by
 obtain ⟨F, h1, _⟩ := Own.row hr
 exact ⟨F, h.new hb ((h1.lower hB).imp (r' := Sp.row F d e base v xs) rfl (fun _ hw => Kd.R_lower hw hB)) h1.lo⟩
theorem Sep.nilrow (h : Sep base w rs) (d : Kd α) (e : Nat) : Sep base w (Sp.row (fun _ => False) d e base (.slice none 0 0) [] :: rs) :=
 ⟨⟨fun _ hk => hk.elim, fun _ hk => hk.elim, fun _ _ => Kd.R_nil _ _ _ _ _⟩, fun _ _ _ hk => hk.elim, h⟩
theorem Sep.R (h : Sep base w (Sp.row F d e base v xs :: rs)) : d.R e w base F v xs := h.now
end
section
variable {α : Type} {d : Kd α} {e base : Nat} {v v1 : Value} {xs xs' : List α} {W w1 : World} {F : Nat → Prop} {rs : List Res}
theorem Sep.grown (h : Sep base W (Sp.row F d e base v xs :: rs)) (hr : d.R e w1 base (fun k => F k ∨ W.heap.size ≤ k) v1 xs') (hg : W.grownBy w1 v.ownBlock) : ∃ F', Sep base w1 (Sp.row F' d e base v1 xs' :: rs) := by
 obtain ⟨F', h1, h2⟩ := Own.row hr
 exact ⟨F', h.call (Stay.of_kept (Kept.of_grown hg (Kept.refl W F) (fun k e => .inl (h.R.1 k e)))) h1 h2⟩
theorem C_take' {w : World} {A : Option Addr} {xs : List α} (h : d.C w A xs.length xs) (m : Nat) : d.C w A (xs.take m).length (xs.take m) := by
 by_cases hm : m ≤ xs.length
 ·exact Kd.C_take h hm
 ·rw [List.take_of_length_le (by omega)]; exact h
end
section
variable {P : Program} {ops : Array Oper} {rest : List Oper} {o : Oper} {a : Act} {Q : Exit → Act → World → Prop} {Kc : Act → World → Prop} {α : Type}
theorem wp_append (d : Kd α) {w0 W : World} (hgd : o.guard = none) (s x : Operand) (t e : TypeId) (z : Value) (bytes : Nat)
  (ho : o.op = .call { callee := .builtin .append, args := #[s, x], argTypes := #[t, t] })
  (ht : P.underlying t = some (.slice e)) (hinfo : (P.info? e).map (fun i => (i.zero, i.size, i.bytes)) = some (some z, d.sz, bytes)) (hz : z.cells.size = d.sz) (hs0 : 0 < d.sz) (hb0 : 0 < bytes)
  {v : Value} {xs : List α} (p : α) (cs : List Value) {F : Nat → Prop} {rs : List Res} (HS : Sep w0.heap.size W (row F d e w0.heap.size v xs :: rs)) (hs : a.eval s = v) (hx : a.eval x = .slice (some ⟨W.heap.size, 0, none⟩) 1 1) (hp : d.M W w0.heap.size (fun _ => False) p cs)
  (HB : Below w0.heap.size w0 W) (hl : (xs.length + 1) * bytes ≤ 140737488355328)
  (h : ∀ v1 w1 F', Sep w0.heap.size w1 (row F' d e w0.heap.size v1 (xs ++ [p]) :: rs) → Below w0.heap.size w0 w1 → wpList P ops Q rest (a.put o.dst v1) w1) :
  wpList P ops Q (o :: rest) a (W.alloc (.cells cs.toArray e)) := by
 refine Kd.R_append d (w0 := w0) w0.heap.size hgd s x t e z bytes ho ht hinfo hz hs0 hb0 v xs p cs (fun k => F k ∨ W.heap.size ≤ k) (fun _ => False) hs hx hp (fun _ hk => hk.elim) (fun _ hk => .inr hk) (Kd.R_mono HS.R (fun _ hk => .inl hk)) HB HB.size hl ?_
 intro v1 w1 hr hb hg _
 obtain ⟨F', h1⟩ := HS.grown hr hg
 exact h v1 w1 F' h1 hb
theorem wp_append_step (d : Kd α) {w0 W : World} (hw : Region.wanted o (yielded ops a.tmps) = true) (s x : Operand) (t e : TypeId) (z : Value) (bytes : Nat)
  (ho : o.op = .call { callee := .builtin .append, args := #[s, x], argTypes := #[t, t] })
  (ht : P.underlying t = some (.slice e)) (hinfo : (P.info? e).map (fun i => (i.zero, i.size, i.bytes)) = some (some z, d.sz, bytes)) (hz : z.cells.size = d.sz) (hs0 : 0 < d.sz) (hb0 : 0 < bytes)
  {v : Value} {xs : List α} (p : α) (cs : List Value) {F : Nat → Prop} {rs : List Res} (HS : Sep w0.heap.size W (row F d e w0.heap.size v xs :: rs)) (hs : a.eval s = v) (hx : a.eval x = .slice (some ⟨W.heap.size, 0, none⟩) 1 1) (hp : d.M W w0.heap.size (fun _ => False) p cs)
  (HB : Below w0.heap.size w0 W) (hl : (xs.length + 1) * bytes ≤ 140737488355328)
  (h : ∀ v1 w1 F', Sep w0.heap.size w1 (row F' d e w0.heap.size v1 (xs ++ [p]) :: rs) → Below w0.heap.size w0 w1 → Kc (a.put o.dst v1) w1) :
  if Region.wanted o (yielded ops a.tmps) = true then Oper.wp P o a (W.alloc (.cells cs.toArray e)) Kc Q else Kc (a.put o.dst undef) (W.alloc (.cells cs.toArray e)) := by
 refine Kd.R_append_step d (w0 := w0) w0.heap.size hw s x t e z bytes ho ht hinfo hz hs0 hb0 v xs p cs (fun k => F k ∨ W.heap.size ≤ k) (fun _ => False) hs hx hp (fun _ hk => hk.elim) (fun _ hk => .inr hk) (Kd.R_mono HS.R (fun _ hk => .inl hk)) HB HB.size hl ?_
 intro v1 w1 hr hb hg _
 obtain ⟨F', h1⟩ := HS.grown hr hg
 exact h v1 w1 F' h1 hb
end
section
variable {P : Program} {ops : Array Oper} {rest : List Oper} {o : Oper} {a : Act} {Q : Exit → Act → World → Prop} {α : Type}
theorem below_of_grown {W w1 : World} (hg : W.grownBy w1 none) : Below W.heap.size W w1 := ⟨hg.os, hg.tape, hg.output, hg.size, fun i hi => hg.block i hi (by simp)⟩
theorem wp_make (d : Kd α) {w0 W : World} (hgd : o.guard = none) {N : Tmp} (hd : o.dst = some N) (t e : TypeId) (x y : Operand) (ho : o.op = .makeSlice t x y) (n : Nat)
  (ht : P.underlying t = some (.slice e)) (z : Value) (bytes : Nat) (hinfo : (P.info? e).map (fun i => (i.zero, i.size, i.bytes)) = some (some z, d.sz, bytes)) (hz : z.cells.size = d.sz) (hs0 : 0 < d.sz) (hb0 : 0 < bytes)
  (z0 : α) (hzero : d.M W w0.heap.size (fun _ => False) z0 z.cells.toList) (hl : n * bytes ≤ 281474976710656) {rs : List Res} (HS : Sep w0.heap.size W rs) (HB : Below w0.heap.size w0 W) (hx : a.eval x = .int .i64 (n : Int)) (hy : a.eval y = .int .i64 (n : Int))
  (h : ∀ A c w1 F, Sep w0.heap.size w1 (row F d e w0.heap.size (.slice A n c) (List.replicate n z0) :: rs) → Below w0.heap.size w0 w1 → wpList P ops Q rest (a.put o.dst (.slice A n c)) w1) : wpList P ops Q (o :: rest) a W := by
 refine Kd.R_make d (w0 := w0) w0.heap.size e hgd hd t x y ho (n : Int) hx hy ht z bytes hinfo hz hs0 hb0 z0 (ok := fun k => W.heap.size ≤ k) (okp := fun _ => False) hzero (fun _ hk => hk.elim) (Nat.le_refl _) (by omega) (by simpa using hl) HB HB.size ?_
 intro v1 w1 hr hb hg _
 rw [Int.toNat_natCast] at hr
 obtain ⟨A, c, rfl⟩ := Kd.R_slice hr
 rw [List.length_replicate] at hr ⊢
 obtain ⟨F, h1, h2⟩ := Own.row hr
 exact h A c w1 F (HS.new (below_of_grown hg) h1 h2) hb
end
section
variable {base e g n cap : Nat} {k : IntKind} {xs : List Int} {W : World} {F : Nat → Prop} {rs : List Res}
theorem Sep.celli (h : Sep base W (Sp.row F (Kd.int k) e base (.slice (some ⟨g, 0, none⟩) n cap) xs :: rs)) (i : Nat) (hi : i < n) : W.cell? ⟨g, i, none⟩ = some (.int k (xs.getD i 0)) ∧ W.frozen? ⟨g, i, none⟩ = false := by
 have := Kd.R_celln (0 : Int) h.R (i : Int) (by omega) (by omega)
 rw [Int.toNat_natCast] at this
 refine ⟨this.1.trans ?_, this.2⟩
 unfold rdOf
 rw [Int.toNat_natCast]
theorem Sep.puti (h : Sep base W (Sp.row F (Kd.int k) e base (.slice (some ⟨g, 0, none⟩) n cap) xs :: rs)) (i : Nat) (x : Int) : ∃ F', Sep base (W.setCell ⟨g, i, none⟩ (.int k x)) (Sp.row F' (Kd.int k) e base (.slice (some ⟨g, 0, none⟩) n cap) (xs.set i x) :: rs) := by
 have := Kd.R_putg h.R (i : Int) x
 rw [Int.toNat_natCast] at this
 exact h.grown (Kd.R_mono this.1 (fun _ hk => .inl hk)) (by simpa [Value.ownBlock] using this.2)
end
section
variable {P : Program} {ops : Array Oper} {rest : List Oper} {o : Oper} {a : Act} {Q : Exit → Act → World → Prop} {Kc : Act → World → Prop} {α : Type}
theorem wp_makecap (d : Kd α) {w0 W : World} (hgd : o.guard = none) {N : Tmp} (hd : o.dst = some N) (t e : TypeId) (x y : Operand) (ho : o.op = .makeSlice t x y) (n : Nat)
  (ht : P.underlying t = some (.slice e)) (z : Value) (bytes : Nat) (hinfo : (P.info? e).map (fun i => (i.zero, i.size, i.bytes)) = some (some z, d.sz, bytes)) (hz : z.cells.size = d.sz) (hs0 : 0 < d.sz) (hb0 : 0 < bytes)
  (hl : n * bytes ≤ 281474976710656) {rs : List Res} (HS : Sep w0.heap.size W rs) (HB : Below w0.heap.size w0 W) (hx : a.eval x = .int .i64 0) (hy : a.eval y = .int .i64 (n : Int))
  (h : ∀ A c w1 F, Sep w0.heap.size w1 (row F d e w0.heap.size (.slice A 0 c) [] :: rs) → Below w0.heap.size w0 w1 → wpList P ops Q rest (a.put o.dst (.slice A 0 c)) w1) : wpList P ops Q (o :: rest) a W := by
 obtain ⟨i0, hi, hzz⟩ := Option.map_eq_some_iff.1 hinfo
 simp only [Prod.mk.injEq] at hzz
 obtain ⟨hz0, hz1, hz2⟩ := hzz
 have hm : n ≤ 281474976710656 := Nat.le_trans (Nat.le_mul_of_pos_right _ hb0) hl
 have hr := run_make (P := P) (w := W) t e i0 z ht hi hz0 .i64 .i64 0 (n : Int) (by omega) (by omega)
  (by
   have h3 : ((i0.bytes * n : Nat) : Int) ≤ 281474976710656 := by rw [hz2, Nat.mul_comm]; omega
   rwa [Int.natCast_mul] at h3) (by omega)
 simp only [Int.toNat_natCast] at hr
 have hR : d.R e (W.alloc (.cells (madeCells z.cells (n * i0.size)) e)) w0.heap.size (fun k => W.heap.size ≤ k) (.slice (some ⟨W.heap.size, 0, none⟩) 0 n) [] := by
  refine ⟨fun k hk => ?_, [], ⟨by simp, .inr ⟨W.heap.size, n, madeCells z.cells (n * i0.size), rfl, HB.size, blk_new W _, Nat.zero_le _, by simp only [maxLen]; omega, by rw [size_madeCells, hz1], by simp⟩⟩, ⟨by simp, fun j p hj => by simp at hj⟩⟩
  have : W.heap.size = k := by simpa [Value.ownBlock] using hk
  omega
 obtain ⟨F, h1, h2⟩ := Own.row hR
 refine Kd.event_run hgd (v := .slice (some ⟨W.heap.size, 0, none⟩) 0 n) (w1 := W.alloc (.cells (madeCells z.cells (n * i0.size)) e)) (by simp [execOp, ho, hx, hy, hr]) ?_
 exact h _ _ _ F (HS.new (below_alloc (Below.refl _ _) _) h1 h2) (HB.alloc HB.size _)
theorem wp_append_row (d : Kd α) {w0 W : World} (hgd : o.guard = none) (s x : Operand) (t e : TypeId) (z : Value) (bytes : Nat)
  (ho : o.op = .call { callee := .builtin .append, args := #[s, x], argTypes := #[t, t] })
  (ht : P.underlying t = some (.slice e)) (hinfo : (P.info? e).map (fun i => (i.zero, i.size, i.bytes)) = some (some z, d.sz, bytes)) (hz : z.cells.size = d.sz) (hs0 : 0 < d.sz) (hb0 : 0 < bytes)
  {v : Value} {xs : List α} (ys : List α) (A : Option Addr) (m c : Nat) {F : Nat → Prop} {rs : List Res} (HS : Sep w0.heap.size W (row F d e w0.heap.size v xs :: rs)) (HR : d.C W A m ys) (hKM : ∀ x cs, d.K W x cs → d.M W w0.heap.size (fun _ => False) x cs)
  (HB : Below w0.heap.size w0 W) (hl : (xs.length + m) * bytes ≤ 140737488355328) (hs : a.eval s = v) (hx : a.eval x = .slice A m c)
  (h : ∀ v1 w1 F', Sep w0.heap.size w1 (row F' d e w0.heap.size v1 (xs ++ ys) :: rs) → Below w0.heap.size w0 w1 → wpList P ops Q rest (a.put o.dst v1) w1) : wpList P ops Q (o :: rest) a W := by
 refine Kd.R_append_rows d (w0 := w0) w0.heap.size hgd s x t e z bytes ho ht hinfo hz hs0 hb0 v xs ys A m c (fun k => F k ∨ W.heap.size ≤ k) (fun _ => False) hs hx (Kd.R_mono HS.R (fun _ hk => .inl hk)) HR hKM (fun _ hk => hk.elim) (fun _ hk => .inr hk) HB HB.size hl ?_
 intro v1 w1 hr hb hg _
 obtain ⟨F', h1⟩ := HS.grown hr hg
 exact h v1 w1 F' h1 hb
end
section
variable {P : Program} {ops : Array Oper} {rest : List Oper} {o : Oper} {a : Act} {Q : Exit → Act → World → Prop} {α : Type}
theorem wp_lit (d : Kd α) {w0 W : World} (hgd : o.guard = none) {N : Tmp} (hd : o.dst = some N) (e : TypeId) (xs : List α) (inner : List Value)
  (hrun : (execOp a.eval o).run P W = .ok (.value (.slice (some ⟨W.heap.size, 0, none⟩) xs.length xs.length)) (W.alloc (.cells inner.toArray e)))
  (hrep : Reps (d.M W w0.heap.size (fun _ => False)) d.sz xs inner) {rs : List Res} (HS : Sep w0.heap.size W rs) (HB : Below w0.heap.size w0 W) (hm : xs.length ≤ 9223372036854775807)
  (h : ∀ v1 w1 F, Sep w0.heap.size w1 (row F d e w0.heap.size v1 xs :: rs) → Below w0.heap.size w0 w1 → wpList P ops Q rest (a.put o.dst v1) w1) : wpList P ops Q (o :: rest) a W := by
 refine Kd.R_lit d (w0 := w0) w0.heap.size e hgd hd (xs := xs) (inner := inner) (ok := fun k => W.heap.size ≤ k) (okp := fun _ => False) hrun hrep (fun _ hk => hk.elim) (Nat.le_refl _) HB HB.size hm ?_
 intro v1 w1 hr hb hg _
 obtain ⟨F, h1, h2⟩ := Own.row hr
 exact h v1 w1 F (HS.new (below_of_grown hg) h1 h2) hb
end
section
variable {α β : Type} {d : Kd α} {d' : Kd β} {e e' base : Nat} {v v' : Value} {xs : List α} {ys : List β} {w w' : World} {rs : List Res} {ok ok' : Nat → Prop}
theorem Sep.newrow2 (h : Sep base w rs) (hb : Below w.heap.size w w') (hB : base ≤ w.heap.size) (hE : d.E = []) (hE' : d'.E = []) (hr : d.R e w' w.heap.size (fun k => some k ≠ v'.ownBlock) v xs) (hr' : d'.R e' w' w.heap.size (fun k => some k ≠ v.ownBlock) v' ys) :
  ∃ F F', Sep base w' (Sp.row F d e base v xs :: Sp.row F' d' e' base v' ys :: rs) := by
 obtain ⟨F', h1, h2⟩ := Own.row (Kd.R_tight hE' hr')
 obtain ⟨F, h3, h4⟩ := Own.row (Kd.R_tight hE hr)
 have hs := h.new hb ((h1.lower hB).imp (r' := Sp.row F' d' e' base v' ys) rfl (fun _ hw => Kd.R_lower hw hB)) h1.lo
 refine ⟨F, F', (h3.lower hB).imp (r' := Sp.row F d e base v xs) rfl (fun _ hw => Kd.R_lower hw hB), ?_, hs⟩
 intro q hq k hk hk'
 rcases List.mem_cons.1 hq with rfl | hq
 ·exact hr.1 k (h4 k hk).symm (h2 k hk')
 ·have := h.hi q hq k hk'
  have := h3.lo k hk
  omega
end
end Go.Proofs.Ythkpnnbjcendcaa.Sp
end
section
namespace Go.Proofs.Ythkpnnbjcendcaa.Sc
open Go.RowKit Go.Proofs.Ythkpnnbjcendcaa.X Go.Proofs.Ythkpnnbjcendcaa.Pl Go.Proofs.Ythkpnnbjcendcaa.Sp Go.Proofs.Ythkpnnbjcendcaa.Pure Go.Proofs.YthkpnnbjcendcaaW.PrintWords Go.Proofs.YthkpnnbjcendcaaW.PrintLast Go.Proofs.YthkpnnbjcendcaaW.PrintMore
def bitsR (base g : Nat) (L : List Bool) (F : Nat → Prop) : Res := ⟨F, fun w => ∃ u bs, w.heap[g]? = some (.cells #[u, .int .i64 (L.length : Int)] 26 (0, 0)) ∧ Kd.R (Kd.int .u8) 5 w base (fun k => k ≠ g ∧ F k) u bs ∧ Holds bs L ∧ F g⟩
theorem bitsR_mk {base g : Nat} {L : List Bool} {u : Value} {bs : List Int} {ok : Nat → Prop} {w : World} (hg : base ≤ g) (hb : w.heap[g]? = some (.cells #[u, .int .i64 (L.length : Int)] 26 (0, 0)))
  (hr : Kd.R (Kd.int .u8) 5 w base ok u bs) (hok : ∀ k, ok k → k ≠ g) (hh : Holds bs L) : Own base w (bitsR base g L (fun k => k = g ∨ (ok k ∧ base ≤ k ∧ k < w.heap.size))) := by
 refine ⟨fun k hk => ?_, fun k hk => ?_, fun w' hw => ?_⟩
 ·rcases hk with rfl | hk
  ·exact hg
  ·exact hk.2.1
 ·rcases hk with rfl | hk
  ·exact blk_lt hb
  ·exact hk.2.2
 ·refine ⟨u, bs, (hw g (.inl rfl)).trans hb, ?_, hh, .inl rfl⟩
  have h1 : Kd.R (Kd.int .u8) 5 w base (fun k => ok k ∧ base ≤ k ∧ k < w.heap.size) u bs := Kd.R_mono (Kd.R_bound hr) (fun k hk => ⟨hk.1, hk.2.1, hk.2.2.1⟩)
  exact Kd.R_mono (Kd.R_move h1 (fun k hk => hw k (.inr hk))) (fun k hk => ⟨hok k hk.1, .inr hk⟩)
theorem Sep.newbits {base g : Nat} {w w' : World} {rs : List Res} (h : Sep base w rs) (hb : Below w.heap.size w w') (hg : w.heap.size ≤ g) (hB : base ≤ w.heap.size) (hx : w'.heap[g]? = some (.cells #[.slice none 0 0, .int .i64 0] 26 (0, 0))) :
  ∃ F, Sep base w' (bitsR base g [] F :: rs) := by
 refine ⟨_, h.new hb (bitsR_mk (L := []) (ok := fun _ => False) (Nat.le_trans hB hg) hx (Kd.R_nil _ _ _ _ _) (fun _ hk => hk.elim) holds_nil) ?_⟩
 rintro k (rfl | ⟨h1, _⟩)
 ·exact hg
 ·exact h1.elim
theorem put_calls (g : Nat) (F : Nat → Prop) (L : List Bool) (n wd : Int) (w0 w : World) (hB : Below w0.heap.size w0 w) (hO : Own w0.heap.size w (bitsR w0.heap.size g L F)) (hn : 0 ≤ n ∧ n < 2 ^ 64) (hw : -9223372036854775808 ≤ wd ∧ wd ≤ 9223372036854775807) :
  Calls Try.prog 22 #[.pointer (some ⟨g, 0, none⟩), .int .u64 n, .int .i64 wd] w fun e w' => e = .returned (.int .i64 (putC L.length n wd)) ∧ Turned w0 w w' F (bitsR w0.heap.size g (putL L n wd)) := by
 obtain ⟨u, bs, hb, hr, hh, hF⟩ := hO.now
 obtain ⟨b', ⟨K, hev⟩, hh'⟩ := put_evL hh n wd hn hw
 refine (bits_Bits_Put.calls K g u bs L.length n wd _ b' _ w0 w hB (hO.lo g hF) hb (Kd.R_mono hr (fun k hk => hk.1)) (hev K (Nat.le_refl _))).mono ?_
 rintro e w' ⟨v1, rfl, hb', hr', hB', hK⟩
 have hu : ∀ k, some k = u.ownBlock → F k := fun k hk => (hr.1 k hk.symm).2
 refine ⟨rfl, Turned.mk_ (bitsR_mk (hO.lo g hF) hb' hr' (fun k hk => hk.1) hh') ?_ hB' (Stay.of_kept (hK.mono (fun k hk => hk.elim (fun e => e ▸ hF) (hu k))))⟩
 rintro k (rfl | ⟨⟨_, h | h⟩, _⟩)
 ·exact .inl hF
 ·exact .inl (hu k h)
 ·exact .inr h
theorem clone_f (b : List Int) (h : b.length < 140737488355328) : slices_Clone_byte_byte.f b = some b := by
 unfold slices_Clone_byte_byte.f
 simp [h]
theorem bytes_calls (base g : Nat) (F : Nat → Prop) (L : List Bool) (w : World) (h : Own base w (bitsR base g L F)) :
  Calls Try.prog 25 #[.pointer (some ⟨g, 0, none⟩)] w fun e w' => ∃ v, e = .returned v ∧ Kd.R (Kd.int .u8) 5 w' w.heap.size (fun _ => True) v (pack L) ∧ Below w.heap.size w w' := by
 obtain ⟨u, bs, hb, hr, hh, hF⟩ := h.now
 have hl := hh.1.len
 have hm := hh.1.max
 rw [← holds_eq hh]
 exact bits_Bits_Bytes.calls g base u bs _ bs w _ hb hr (clone_f bs (by omega))
theorem at_calls (A : Option Addr) (c : Nat) (b : List Int) (p wd : Int) (w : World) (hr : Kd.C (Kd.int .u8) w A b.length b) (hc : b.length ≤ c) (hb : Byt b) (hl : b.length < 1000000) (hw : -9223372036854775808 ≤ wd ∧ wd ≤ 9223372036854775807) :
  Calls Try.prog 27 #[.slice A b.length c, .int .i64 p, .int .i64 wd] w fun e w' => e = .returned (.tuple #[.int .u64 (atR b p wd).1, .int .i64 (atR b p wd).2]) ∧ Below w.heap.size w w' := by
 obtain ⟨K, hev⟩ := at_ev hb hl p wd hw
 exact bits_At.calls K A c b p wd _ _ w hr hc (hev K (Nat.le_refl _))
theorem at_calls_eq (A : Option Addr) (c : Nat) (b : List Int) (p wd r1 r2 : Int) (w : World) (hr : Kd.C (Kd.int .u8) w A b.length b) (hc : b.length ≤ c) (hb : Byt b) (hl : b.length < 1000000) (hw : -9223372036854775808 ≤ wd ∧ wd ≤ 9223372036854775807) (h : atR b p wd = (r1, r2)) :
  Calls Try.prog 27 #[.slice A b.length c, .int .i64 p, .int .i64 wd] w fun e w' => e = .returned (.tuple #[.int .u64 r1, .int .i64 r2]) ∧ Below w.heap.size w w' := by
 have := at_calls A c b p wd w hr hc hb hl hw
 rw [h] at this
 exact this
end Go.Proofs.Ythkpnnbjcendcaa.Sc
end
section
open Go.RowKit Go.Proofs.Ythkpnnbjcendcaa.X Go.Proofs.Ythkpnnbjcendcaa.Pl Go.Proofs.YthkpnnbjcendcaaW.PrintWords Go.Proofs.YthkpnnbjcendcaaW.PrintLast Go.Proofs.YthkpnnbjcendcaaW.PrintMore
namespace Go.Proofs.Ythkpnnbjcendcaa.Pure
def packN (m : Nat) (L : List Bool) : List Int := (List.range m).map fun i => (byteOf (fun j => L.getD (8 * i + j) false) : Int)
theorem packN_nil (m : Nat) : packN m [] = List.replicate m 0 := by
 refine List.ext_getElem (by simp [packN]) ?_
 intro i h1 h2
 simp [packN, byteOf, b2]
theorem packN_length (m : Nat) (L : List Bool) : (packN m L).length = m := by simp [packN]
theorem packN_false (m : Nat) (L : List Bool) : packN m (L ++ [false]) = packN m L := by
 have : ∀ q, (L ++ [false]).getD q false = L.getD q false := by
  intro q
  simp only [List.getD_eq_getElem?_getD]
  by_cases h : q < L.length
  ·rw [List.getElem?_append_left h]
  ·rw [List.getElem?_append_right (by omega), List.getElem?_eq_none (l := L) (by omega)]
   by_cases h2 : q - L.length = 0
   ·rw [h2]; rfl
   ·rw [List.getElem?_eq_none (by simp; omega)]
 unfold packN
 simp only [this]
theorem packN_true (m : Nat) (L : List Bool) (h : L.length / 8 < m) :
  packN m (L ++ [true]) = (packN m L).set (L.length / 8) ((packN m L).getD (L.length / 8) 0 + 128 / 2 ^ (L.length % 8)) ∧ (packN m L).getD (L.length / 8) 0 + 128 / 2 ^ (L.length % 8) ≤ 255 ∧ 0 ≤ (packN m L).getD (L.length / 8) 0 := by
 have hg : ∀ q, q ≠ L.length → (L ++ [true]).getD q false = L.getD q false := by
  intro q hq
  simp only [List.getD_eq_getElem?_getD]
  by_cases h : q < L.length
  ·rw [List.getElem?_append_left h]
  ·rw [List.getElem?_append_right (by omega), List.getElem?_eq_none (l := L) (by omega), List.getElem?_eq_none (by simp; omega)]
 have ht : (L ++ [true]).getD L.length false = true := by simp [List.getD_eq_getElem?_getD]
 have hf : L.getD L.length false = false := by simp [List.getD_eq_getElem?_getD]
 have hd : (packN m L).getD (L.length / 8) 0 = (byteOf (fun j => L.getD (8 * (L.length / 8) + j) false) : Int) := by
  rw [List.getD_eq_getElem?_getD]
  simp [packN, h]
 have key : byteOf (fun j => (L ++ [true]).getD (8 * (L.length / 8) + j) false) = byteOf (fun j => L.getD (8 * (L.length / 8) + j) false) + 128 / 2 ^ (L.length % 8) := by
  unfold byteOf
  have e : L.length = 8 * (L.length / 8) + L.length % 8 := by omega
  have h8 := Nat.mod_lt L.length (show 0 < 8 by decide)
  have h0 := hg (8 * (L.length / 8) + 0)
  have h1 := hg (8 * (L.length / 8) + 1)
  have h2 := hg (8 * (L.length / 8) + 2)
  have h3 := hg (8 * (L.length / 8) + 3)
  have h4 := hg (8 * (L.length / 8) + 4)
  have h5 := hg (8 * (L.length / 8) + 5)
  have h6 := hg (8 * (L.length / 8) + 6)
  have h7 := hg (8 * (L.length / 8) + 7)
  generalize L.length / 8 = a at *
  generalize L.length % 8 = r at *
  rw [e] at ht hf
  rcases (by omega : r = 0 ∨ r = 1 ∨ r = 2 ∨ r = 3 ∨ r = 4 ∨ r = 5 ∨ r = 6 ∨ r = 7) with rfl | rfl | rfl | rfl | rfl | rfl | rfl | rfl <;>
   simp_all [b2] <;> omega
 have hlt := byteOf_lt (fun j => (L ++ [true]).getD (8 * (L.length / 8) + j) false)
 rw [hd]
 refine ⟨?_, ?_, by omega⟩
 ·refine List.ext_getElem (by simp [packN]) ?_
  intro i h1 h2
  rw [List.getElem_set]
  have hi : i < m := by simpa [packN] using h1
  by_cases hi2 : L.length / 8 = i
  ·rw [if_pos hi2]
   subst hi2
   simp only [packN, List.getElem_map, List.getElem_range]
   rw [key]
   simp
  ·rw [if_neg hi2]
   simp only [packN, List.getElem_map, List.getElem_range]
   unfold byteOf
   dsimp only
   rw [hg (8 * i + 0) (by omega), hg (8 * i + 1) (by omega), hg (8 * i + 2) (by omega), hg (8 * i + 3) (by omega), hg (8 * i + 4) (by omega), hg (8 * i + 5) (by omega), hg (8 * i + 6) (by omega), hg (8 * i + 7) (by omega)]
 ·rw [key] at hlt
  have : ((byteOf (fun j => L.getD (8 * (L.length / 8) + j) false) + 128 / 2 ^ (L.length % 8) : Nat) : Int) ≤ 255 := by omega
  simpa using this
end Go.Proofs.Ythkpnnbjcendcaa.Pure
end
section
open Go.RowKit Go.Proofs.Ythkpnnbjcendcaa.X Go.Proofs.Ythkpnnbjcendcaa.Pl Go.Proofs.Ythkpnnbjcendcaa.Sp Go.Proofs.Ythkpnnbjcendcaa.Pure Go.Proofs.YthkpnnbjcendcaaW.PrintWords Go.Proofs.YthkpnnbjcendcaaW.PrintLast Go.Proofs.YthkpnnbjcendcaaW.PrintMore
namespace Go.Proofs.Ythkpnnbjcendcaa.Sc
theorem fits_loop (w : Nat) (hw : w ≤ 64) (d : Nat) : ∀ (i n : Nat), w - i = d → i ≤ w → n < 2 ^ 64 → Ev (fun k => marigraphref02_fits.l0 k (n : Int) (w : Int) (i : Int)) (decide (n < 2 ^ d)) := by
 induction d with
 | zero =>
  intro i n hd hi hn
  refine ev_succ (fun k => by rw [marigraphref02_fits.l0]) (ev_neg (by omega) (ev_eq (Ev.now _) ?_))
  rcases Nat.eq_zero_or_pos n with rfl | h
  ·simp
  ·have h1 : ¬ n < 2 ^ 0 := by simp; omega
   rw [decide_eq_false h1, beq_eq_false_iff_ne]
   omega
 | succ d ih =>
  intro i n hd hi hn
  have h1 : wrap64 ((i : Int) + 1) = ((i + 1 : Nat) : Int) := by rw [w64 (by omega) (by omega)]; simp
  refine ev_succ (fun k => by rw [marigraphref02_fits.l0]) (ev_pos (by omega) ?_)
  have h2 := ih (i + 1) (n / 2) (by omega) (by omega)
  rw [h1, tdiv_pos (by omega), show (n : Int) / 2 = ((n / 2 : Nat) : Int) by omega]
  have h3 : IntKind.u64.wrap ((n / 2 : Nat) : Int) = ((n / 2 : Nat) : Int) := w_u64 (by omega) (by exact_mod_cast Nat.lt_of_le_of_lt (Nat.div_le_self n 2) hn)
  rw [h3]
  refine ev_eq (h2 (Nat.lt_of_le_of_lt (Nat.div_le_self n 2) hn)) ?_
  have : n / 2 < 2 ^ d ↔ n < 2 ^ (d + 1) := by rw [Nat.pow_succ, Nat.div_lt_iff_lt_mul (by decide)]
  simp only [this]
theorem fits_calls (n w : Int) (W : World) (hn : 0 ≤ n ∧ n < 2 ^ 64) (hw : 0 ≤ w ∧ w ≤ 64) :
  Calls Try.prog 61 #[.int .u64 n, .int .i64 w] W fun e W' => e = .returned (.bool (decide (n < 2 ^ w.toNat))) ∧ Below W.heap.size W W' := by
 obtain ⟨N, rfl⟩ : ∃ N : Nat, n = (N : Int) := ⟨n.toNat, by omega⟩
 obtain ⟨M, rfl⟩ : ∃ M : Nat, w = (M : Int) := ⟨w.toNat, by omega⟩
 have hN : N < 2 ^ 64 := by have := hn.2; exact_mod_cast this
 obtain ⟨K, hK⟩ := fits_loop M (by omega) M 0 N (by omega) (by omega) hN
 refine (marigraphref02_fits.calls K (N : Int) (M : Int) _ W (hK K (Nat.le_refl _))).mono ?_
 rintro e W' ⟨rfl, hd⟩
 have : ((N : Int) < 2 ^ (M : Int).toNat) ↔ N < 2 ^ M := by rw [Int.toNat_natCast]; exact_mod_cast Iff.rfl
 exact ⟨by simp only [this], hd.below⟩
def refR (base g : Nat) (L : List Bool) (F : Nat → Prop) : Res := ⟨F, fun w => ∃ v, w.heap[g]? = some (.cells #[v] 30 (0, 0)) ∧ Kd.R Kd.bool 4 w base (fun k => k ≠ g ∧ F k) v L ∧ F g⟩
theorem refR_open {base g : Nat} {L : List Bool} {F : Nat → Prop} {w : World} {rs : List Res} (h : Sep base w (refR base g L F :: rs)) : ∃ v F1, Sep base w (row F1 Kd.bool 4 base v L :: box g #[v] 30 :: rs) := by
 obtain ⟨v, hb, hr, hF⟩ := h.now
 refine ⟨v, fun k => k ≠ g ∧ F k, ⟨fun k hk => h.own.lo k hk.2, fun k hk => h.own.hi k hk.2, fun w' hw => Kd.R_move hr hw⟩, ?_, Own.box (h.own.lo g hF) hb, ?_, h.drop⟩
 ·intro q hq k hk hk'
  rcases List.mem_cons.1 hq with rfl | hq
  ·exact hk.1 hk'
  ·exact h.apart q hq k hk.2 hk'
 ·intro q hq k hk hk'
  have hk : k = g := hk
  exact h.apart q hq k (hk ▸ hF) hk'
theorem refR_shut {base g : Nat} {L : List Bool} {F1 : Nat → Prop} {v : Value} {w : World} {rs : List Res} (h : Sep base w (row F1 Kd.bool 4 base v L :: box g #[v] 30 :: rs)) : Sep base w (refR base g L (fun k => k = g ∨ F1 k) :: rs) := by
 refine ⟨⟨fun k hk => hk.elim (fun e => e ▸ h.drop.ge) (h.own.lo k), fun k hk => hk.elim (fun e => e ▸ h.drop.own.hi g rfl) (h.own.hi k), fun w' hw => ?_⟩, ?_, h.drop.drop⟩
 ·refine ⟨v, (hw g (.inl rfl)).trans h.drop.blk, ?_, .inl rfl⟩
  exact Kd.R_mono (Kd.R_move h.R (fun k hk => hw k (.inr hk))) (fun k hk => ⟨fun e => h.apart _ List.mem_cons_self k hk e, .inr hk⟩)
 ·intro q hq k hk hk'
  rcases hk with rfl | hk
  ·exact h.drop.apart q hq k rfl hk'
  ·exact h.apart q (List.mem_cons_of_mem _ hq) k hk hk'
theorem Sep.newref {base g : Nat} {w w' : World} {rs : List Res} (h : Sep base w rs) (hb : Below w.heap.size w w') (hg : w.heap.size ≤ g) (hB : base ≤ w.heap.size) (hx : w'.heap[g]? = some (.cells #[.slice none 0 0] 30 (0, 0))) :
  ∃ F, Sep base w' (refR base g [] F :: rs) := by
 have h1 := Sep.nilrow (h.newbox hb hg hB hx) Kd.bool 4
 exact ⟨_, refR_shut h1⟩
theorem info4 : (Try.prog.info? 4).map (fun i => (i.zero, i.size, i.bytes)) = some (some (.bool false), 1, 1) := by kernel_rfl
theorem nb_take (n w j : Nat) (hj : j < w) : (nb n w).take (j + 1) = (nb n w).take j ++ [decide (n / 2 ^ (w - 1 - j) % 2 = 1)] := by
 rw [List.take_succ_eq_append_getElem (by rw [nb_length]; exact hj)]
 simp [nb]
theorem bit_eq {n : Int} (h : 0 ≤ n) (e : Nat) : (Int.tmod (n / 2 ^ e) 2 == 1) = decide (n.toNat / 2 ^ e % 2 = 1) := by
 obtain ⟨N, rfl⟩ : ∃ N : Nat, n = (N : Int) := ⟨n.toNat, by omega⟩
 have h1 : (N : Int) / 2 ^ e = ((N / 2 ^ e : Nat) : Int) := by rw [Int.natCast_ediv]; simp
 rw [h1, tmod_pos (Int.natCast_nonneg _), Int.toNat_natCast]
 generalize N / 2 ^ e = x
 rw [Bool.eq_iff_iff]
 simp
 omega
set_option maxHeartbeats 8000000 in
set_option maxRecDepth 100000 in
theorem refput_calls (g : Nat) (F : Nat → Prop) (L : List Bool) (n wd : Int) (w0 w : World) (hB : Below w0.heap.size w0 w) (hO : Own w0.heap.size w (refR w0.heap.size g L F)) (hn : 0 ≤ n ∧ n < 2 ^ 64) (hw : -9223372036854775808 ≤ wd ∧ wd ≤ 9223372036854775807) (hm : L.length ≤ 262144) :
  Calls Try.prog 23 #[.pointer (some ⟨g, 0, none⟩), .int .u64 n, .int .i64 wd] w fun e w' => e = .returned (.int .i64 (putC L.length n wd)) ∧ Turned w0 w w' F (refR w0.heap.size g (putL L n wd)) := by
 have HB0 := Aside0.mk hB
 have HB := Aside0.mk hB
 obtain ⟨v, F1, hs⟩ := refR_open (Sep.start hO)
 have HS := Aside0.mk hs
 have HN := Aside0.mk hn
 have HD := Aside0.mk hw
 have HM := Aside0.mk hm
 obtain ⟨A1, c1, e_⟩ := Kd.R_slice (Sep.R HS.out)
 subst e_
 have hc0 := Sep.c10 HS.out.p2
 have hf0 := Sep.free HS.out.p2 0
 have stay : ∀ c : Int, c ≠ 0 → putC L.length n wd = c → ∀ w' : World, Sep w0.heap.size w' [row F1 Kd.bool 4 w0.heap.size (.slice A1 L.length c1) L, box g #[.slice A1 L.length c1] 30, frameR w0.heap.size w (refR w0.heap.size g L F).foot] → Below w0.heap.size w0 w' → Ending.returned (.int .i64 c) = Ending.returned (.int .i64 (putC L.length n wd)) ∧ Turned w0 w w' F (refR w0.heap.size g (putL L n wd)) := by
  intro c h0 hc w' hs hb
  have : putL L n wd = L := by unfold putL; rw [if_neg (hc ▸ h0)]
  rw [this, hc]
  exact ⟨rfl, Turned.of_sep (refR_shut hs) hB hb⟩
 have HST := Aside0.mk stay
 clear hB hO hs hn hw hm stay
 by_cases h1 : wd < 0
 ·have h1b : decide (wd < 0) = true := decide_eq_true h1
  have hc : putC L.length n wd = 20 := by unfold putC; rw [if_pos (Or.inl h1)]
  have HC := Aside0.mk hc
  clear hc h1
  go_enter Try.func23, Try.ntmps23
  go_wp2
  go_ret
  exact HST.out 20 (by decide) HC.out _ (by repeat (first | exact HS.out | apply sep_alloc | apply sep_drewN | apply sep_drew)) (by repeat (first | exact HB.out | apply below_alloc | apply pw_below_drewN | apply below_drew1))
 ·have h1b : decide (wd < 0) = false := decide_eq_false h1
  by_cases h2 : wd > 64
  ·have h2b : decide (64 < wd) = true := decide_eq_true h2
   have hc : putC L.length n wd = 20 := by unfold putC; rw [if_pos (Or.inr h2)]
   have HC := Aside0.mk hc
   clear hc h1 h2
   go_enter Try.func23, Try.ntmps23
   go_wp2
   go_ret
   exact HST.out 20 (by decide) HC.out _ (by repeat (first | exact HS.out | apply sep_alloc | apply sep_drewN | apply sep_drew)) (by repeat (first | exact HB.out | apply below_alloc | apply pw_below_drewN | apply below_drew1))
  ·have h2b : decide (64 < wd) = false := decide_eq_false h2
   have HW := Aside0.mk (show 0 ≤ wd ∧ wd ≤ 64 by omega)
   clear h1 h2
   by_cases h3 : n < 2 ^ wd.toNat
   ·by_cases h4 : (L.length : Int) + wd > 262144
    ·have hc : putC L.length n wd = 3 := by unfold putC; rw [if_neg (by have := HW.out; omega), if_neg (by simpa using h3), if_pos h4]
     have HC := Aside0.mk hc
     have HF := Aside0.mk h3
     have h4b : decide (262144 < wrap64 ((L.length : Int) + wd)) = true := decide_eq_true (by have := HM.out; have := HW.out; rw [w64 (by omega) (by omega)]; exact h4)
     clear hc h3 h4
     go_enter Try.func23, Try.ntmps23
     go_wp2_with (first
      | ((with_reducible refine gate_dst (N := 16) rfl ?_); (try (refine gate_guard (by rfl) ?_; dsimp only)); refine goesL_ (some 16) rfl rfl Try.func61 (by kernel_rfl) rfl #[.int .u64 n, .int .i64 wd] rfl (by (try simp only [List.map_toArray, List.map_cons, List.map_nil]); first | done | rfl) ?_; (with_reducible refine (fits_calls n wd _ HN.out HW.out).mono ?_); rintro e w1 ⟨rfl, hb⟩; refine ⟨_, rfl, ?_⟩; rw [decide_eq_true HF.out]; have n0_ := Aside0.mk (below_step (by repeat (first | exact HB.out | apply below_alloc | apply pw_below_drewN | apply below_drew1)) hb); have n1_ := Aside0.mk (Sep.below (by repeat (first | exact HS.out | apply sep_alloc | apply sep_drewN | apply sep_drew)) hb); clear HB HS; have HB := n0_; have HS := n1_; clear n0_ n1_ hb; clear hc0 hf0; have hc0 := Sep.c10 HS.out.p2))
     go_ret
     exact HST.out 3 (by decide) HC.out _ HS.out HB.out
    ·have hc : putC L.length n wd = 0 := by unfold putC; rw [if_neg (by have := HW.out; omega), if_neg (by simpa using h3), if_neg h4]
     have HPL := Aside0.mk (show putL L n wd = L ++ nb n.toNat wd.toNat by unfold putL; rw [if_pos hc])
     have HC := Aside0.mk hc
     have HF := Aside0.mk h3
     have HL := Aside0.mk (show (L.length : Int) + wd ≤ 262144 by omega)
     have h4b : decide (262144 < wrap64 ((L.length : Int) + wd)) = false := decide_eq_false (by have := HM.out; have := HW.out; rw [w64 (by omega) (by omega)]; exact h4)
     have hw1 : wrap64 (wd - 1) = wd - 1 := w64 (by have := HW.out; omega) (by have := HW.out; omega)
     have HW1 := Aside0.mk hw1
     clear hc h3 h4 hw1
     go_enter Try.func23, Try.ntmps23
     go_wp2_with (first
      | ((with_reducible refine gate_dst (N := 16) rfl ?_); (try (refine gate_guard (by rfl) ?_; dsimp only)); refine goesL_ (some 16) rfl rfl Try.func61 (by kernel_rfl) rfl #[.int .u64 n, .int .i64 wd] rfl (by (try simp only [List.map_toArray, List.map_cons, List.map_nil]); first | done | rfl) ?_; (with_reducible refine (fits_calls n wd _ HN.out HW.out).mono ?_); rintro e w1 ⟨rfl, hb⟩; refine ⟨_, rfl, ?_⟩; rw [decide_eq_true HF.out]; have n0_ := Aside0.mk (below_step (by repeat (first | exact HB.out | apply below_alloc | apply pw_below_drewN | apply below_drew1)) hb); have n1_ := Aside0.mk (Sep.below (by repeat (first | exact HS.out | apply sep_alloc | apply sep_drewN | apply sep_drew)) hb); clear HB HS; have HB := n0_; have HS := n1_; clear n0_ n1_ hb; clear hc0 hf0; have hc0 := Sep.c10 HS.out.p2))
     clear hc0
     go_loopg [7] wd.toNat (fun kq v7 w' => ∃ (i : Int) (j : Nat) (v : Value) (F1 : Nat → Prop) (M : List Bool), v7 = .int .i64 i ∧ Aside0 (i = wd - 1 - j ∧ j ≤ wd.toNat ∧ kq + j = wd.toNat ∧ M = L ++ (nb n.toNat wd.toNat).take j) ∧ Aside0 (Sep w0.heap.size w' [row F1 Kd.bool 4 w0.heap.size v M, box g #[v] 30, frameR w0.heap.size w (refR w0.heap.size g L F).foot]) ∧ Aside0 (Below w0.heap.size w0 w'))
     case atStart => exact ⟨wd - 1, 0, _, F1, L, by rw [HW1.out], ⟨by omega, by omega, by omega, by simp⟩, HS, HB⟩
     case round =>
      clear HS HB h4b h2b h1b
      obtain ⟨i, j, v, F1, M, rfl, HI, HS, HB⟩ := hrel
      obtain ⟨A1, c1, e_⟩ := Kd.R_slice (Sep.R HS.out)
      subst e_
      by_cases hi : 0 ≤ i
      ·obtain ⟨k1, rfl⟩ : ∃ m, gk = m + 1 := ⟨gk - 1, by have := HI.out; omega⟩
       have hib : decide (0 ≤ i) = true := decide_eq_true hi
       have hi6 : i ≤ 64 := by have := HI.out; have := HW.out; omega
       obtain ⟨b, hbt⟩ : ∃ b : Bool, (Int.tmod (n / 2 ^ i.toNat) 2 == 1) = b := ⟨_, rfl⟩
       have hn0 := HN.out.1
       have HLM := Aside0.mk (show M.length ≤ 262144 by rw [HI.out.2.2.2, List.length_append, List.length_take, nb_length]; have := HL.out; have := HI.out; have := HW.out; omega)
       have hnx : wrap64 (i - 1) = i - 1 := w64 (by omega) (by omega)
       have HX := Aside0.mk hnx
       have HBT := Aside0.mk hbt
       clear hnx
       go_wp2
       refine start_ (n := 15) (S := fun w' => w'.cell? ⟨g, 0, none⟩ = some (.slice A1 M.length c1)) (ds := [14]) #[false, false, false, false, false, false, false, false, false, false, false, false, false, false, false] (by kernel_rfl) rfl rfl (Sep.c10 (sep_drew HS.out.p2)) (fun hHeld => ?_)
       have n0_ := Aside0.mk (below_drew HB.out)
       have n1_ := Aside0.mk (sep_drew HS.out)
       clear HB HS
       have HB := n0_
       have HS := n1_
       clear n0_ n1_
       generalize (World.drew wr) = wd_ at HB HS hHeld ⊢
       refine pure_ (i := 0) (N := some 32) (v := ?_) (a' := ?_) #[true, false, false, false, false, false, false, false, false, false, false, false, false, false, false] rfl rfl (by kernel_rfl) (fun _ _ _ h => h) (Or.inl ⟨by rfl, ?_⟩) ?_ ?_
       rotate_left
       ·intro w'
        go_simp
        with_reducible rfl
       rotate_left
       ·simp only [Act.put, sA_, sB_, sC_, i64_w, i32_w]
        rfl
       refine pure_ (i := 1) (N := some 33) (v := ?_) (a' := ?_) #[true, true, false, false, false, false, false, false, false, false, false, false, false, false, false] rfl rfl (by kernel_rfl) (fun _ _ _ h => h) (Or.inl ⟨by rfl, ?_⟩) ?_ ?_
       rotate_left
       ·intro w'
        go_simp
        with_reducible rfl
       rotate_left
       ·simp only [Act.put, sA_, sB_, sC_, i64_w, i32_w]
        rfl
       refine pure_ (i := 2) (N := some 34) (v := ?_) (a' := ?_) #[true, true, true, false, false, false, false, false, false, false, false, false, false, false, false] rfl rfl (by kernel_rfl) (fun _ _ _ h => h) (Or.inl ⟨by rfl, ?_⟩) ?_ ?_
       rotate_left
       ·intro w'
        go_simp
        with_reducible rfl
       rotate_left
       ·simp only [Act.put, sA_, sB_, sC_, i64_w, i32_w]
        rfl
       refine pure_ (i := 3) (N := some 35) (v := ?_) (a' := ?_) #[true, true, true, true, false, false, false, false, false, false, false, false, false, false, false] rfl rfl (by kernel_rfl) (fun _ _ _ h => h) (Or.inl ⟨by rfl, ?_⟩) ?_ ?_
       rotate_left
       ·intro w'
        go_simp
        with_reducible rfl
       rotate_left
       ·simp only [Act.put, sA_, sB_, sC_, i64_w, i32_w]
        rfl
       refine pure_ (i := 5) (N := some 37) (v := ?_) (a' := ?_) #[true, true, true, true, false, true, false, false, false, false, false, false, false, false, false] rfl rfl (by kernel_rfl) (fun _ _ _ h => h) (Or.inl ⟨by rfl, ?_⟩) ?_ ?_
       rotate_left
       ·intro w'
        go_simp
        with_reducible rfl
       rotate_left
       ·simp only [Act.put, sA_, sB_, sC_, i64_w, i32_w]
        rfl
       refine pure_ (i := 6) (N := some 38) (v := ?_) (a' := ?_) #[true, true, true, true, false, true, true, false, false, false, false, false, false, false, false] rfl rfl (by kernel_rfl) (fun _ _ _ h => h) (Or.inl ⟨by rfl, ?_⟩) ?_ ?_
       rotate_left
       ·intro w'
        go_simp
        with_reducible rfl
       rotate_left
       ·simp only [Act.put, sA_, sB_, sC_, i64_w, i32_w]
        rfl
       refine pure_ (i := 7) (N := some 39) (v := ?_) (a' := ?_) #[true, true, true, true, false, true, true, true, false, false, false, false, false, false, false] rfl rfl (by kernel_rfl) (fun _ _ _ h => h) (Or.inl ⟨by rfl, ?_⟩) ?_ ?_
       rotate_left
       ·intro w'
        go_simp
        with_reducible rfl
       rotate_left
       ·simp only [Act.put, sA_, sB_, sC_, i64_w, i32_w]
        rfl
       refine pure_ (i := 8) (N := some 40) (v := ?_) (a' := ?_) #[true, true, true, true, false, true, true, true, true, false, false, false, false, false, false] rfl rfl (by kernel_rfl) (fun _ _ _ h => h) (Or.inl ⟨by rfl, ?_⟩) ?_ ?_
       rotate_left
       ·intro w'
        go_simp
        with_reducible rfl
       rotate_left
       ·simp only [Act.put, sA_, sB_, sC_, i64_w, i32_w]
        rfl
       refine pure_ (i := 9) (N := some 41) (v := ?_) (a' := ?_) #[true, true, true, true, false, true, true, true, true, true, false, false, false, false, false] rfl rfl (by kernel_rfl) (fun _ _ _ h => h) (Or.inl ⟨by rfl, ?_⟩) ?_ ?_
       rotate_left
       ·intro w'
        go_simp
        with_reducible rfl
       rotate_left
       ·simp only [Act.put, sA_, sB_, sC_, i64_w, i32_w]
        rfl
       refine take_ (i := 4) (N := some 36) (v := ?_) (a' := ?_) #[true, true, true, true, true, true, true, true, true, true, false, false, false, false, false] rfl rfl (by kernel_rfl) (fun _ _ _ h => h) (Or.inl ⟨by rfl, ?_⟩) hHeld ?_ ?_
       rotate_left
       ·intro w' s0
        go_simp
        with_reducible rfl
       rotate_left
       ·simp only [Act.put, sA_, sB_, sC_, i64_w, i32_w]
        rfl
       refine one_ (i := 10) (N := some 42) #[true, true, true, true, true, true, true, true, true, true, true, false, false, false, false] rfl rfl (by kernel_rfl) (by decide) (fun K hK => ?_)
       refine value_ (w1 := ?_) (v := ?_) (by rfl) rfl ?_ ?_
       rotate_left 2
       ·go_simp
        constructor
        ·rfl
        ·rfl
       refine hK.out _ _ (Sep.c10 (sep_alloc HS.out.p2 _)) (fun hHeld => ?_)
       clear hK K
       refine norm_ (a' := ?_) ?_ ?_
       rotate_left
       ·show Act.put _ (some 42) _ = _
        simp only [Act.put, sA_, sB_, sC_, i64_w, i32_w]
        rfl
       refine one_ (i := 11) (N := some 43) #[true, true, true, true, true, true, true, true, true, true, true, true, false, false, false] rfl rfl (by kernel_rfl) (by decide) (fun K hK => ?_)
       refine wp_append_step Kd.bool (w0 := w0) ?hw_ (.tmp 36) (.tmp 42) 28 4 (.bool false) 1 ?ho_ ?ht_ ?hi_ ?hz_ ?h0_ ?hb_ (b) [.bool b] (HS.out) ?hs_ ?hx_ ?hp_ ?HB_ ?hl_ ?_; (case hw_ => rfl); (case ho_ => rfl); (case ht_ => exact Try.underlying28); (case hi_ => exact info4); (case hz_ => rfl); (case h0_ => decide); (case hb_ => omega); (case hs_ => rfl); (case hx_ => rfl); (case hp_ => exact rfl); (case HB_ => exact HB.out); (case hl_ => have := HLM.out; omega); intro v_ w_ F_ hs_ hb_; obtain ⟨M1, hy_⟩ : ∃ y_, y_ = M ++ [b] := ⟨_, rfl⟩; rw [← hy_] at hs_; have HM1 := Aside0.mk hy_; clear hy_ HB HS hHeld; have HB := Aside0.mk hb_; have HS := Aside0.mk hs_; clear hb_ hs_; obtain ⟨A_, c_, e_⟩ := Kd.R_slice (Sep.R HS.out); subst e_
       have hc0 := Sep.c10 HS.out.p2
       have hf0 := Sep.free HS.out.p2 0
       refine hK.out _ _ (Sep.c10 HS.out.p2) (fun hHeld => ?_)
       clear hK K
       refine norm_ (a' := ?_) ?_ ?_
       rotate_left
       ·show Act.put _ (some 43) _ = _
        simp only [Act.put, sA_, sB_, sC_, i64_w, i32_w]
        rfl
       refine pure_ (i := 12) (N := some 44) (v := ?_) (a' := ?_) #[true, true, true, true, true, true, true, true, true, true, true, true, true, false, false] rfl rfl (by kernel_rfl) (fun _ _ _ h => h) (Or.inl ⟨by rfl, ?_⟩) ?_ ?_
       rotate_left
       ·intro w'
        go_simp
        with_reducible rfl
       rotate_left
       ·simp only [Act.put, sA_, sB_, sC_, i64_w, i32_w]
        rfl
       refine pure_ (i := 13) (N := some 45) (v := ?_) (a' := ?_) #[true, true, true, true, true, true, true, true, true, true, true, true, true, true, false] rfl rfl (by kernel_rfl) (fun _ _ _ h => h) (Or.inl ⟨by rfl, ?_⟩) ?_ ?_
       rotate_left
       ·intro w'
        go_simp
        with_reducible rfl
       rotate_left
       ·simp only [Act.put, sA_, sB_, sC_, i64_w, i32_w]
        rfl
       refine last_ (i := 14) (N := none) #[true, true, true, true, true, true, true, true, true, true, true, true, true, true, true] rfl rfl (by kernel_rfl) (by decide) (fun K hK => ?_)
       refine skip_ (w1 := ?_) (by rfl) rfl ?_ ?_
       rotate_left
       ·go_simp
        rfl
       refine hK.out _ _ ?_
       clear hK K
       refine done_ (by kernel_rfl) ?_
       go_wp2
       go_roundg k1
       case measure => omega
       case rel => exact ⟨i - 1, j + 1, _, F_, M1, (by first | rfl | rw [HX.out]), ⟨by have := HI.out; omega, by have := HI.out; have := HW.out; omega, by have := HI.out; omega, by
        have h1 := HI.out
        have h2 := HW.out
        rw [HM1.out, HI.out.2.2.2, ← HBT.out, bit_eq HN.out.1, nb_take _ _ _ (by omega), show i.toNat = wd.toNat - 1 - j by omega, List.append_assoc]⟩, ⟨(HS.out.p2.s10 _).p2⟩, ⟨below_set HB.out HS.out.p2.ge⟩⟩
      ·have hib : decide (0 ≤ i) = false := decide_eq_false hi
       have hj : j = wd.toNat := by have := HI.out; have := HW.out; omega
       have HJ := Aside0.mk (show M = putL L n wd by rw [HPL.out, HI.out.2.2.2, hj, List.take_of_length_le (by rw [nb_length]; omega)])
       clear hi hj
       go_wp2
       go_ret
       refine ⟨by rw [HC.out]; rfl, ?_⟩
       have hs := HS.out
       rw [HJ.out] at hs
       exact Turned.of_sep (refR_shut hs) HB0.out HB.out
   ·have hc : putC L.length n wd = 1 := by unfold putC; rw [if_neg (by have := HW.out; omega), if_pos (by simpa using h3)]
    have HC := Aside0.mk hc
    have HF := Aside0.mk h3
    clear hc h3
    go_enter Try.func23, Try.ntmps23
    go_wp2_with (first
     | ((with_reducible refine gate_dst (N := 16) rfl ?_); (try (refine gate_guard (by rfl) ?_; dsimp only)); refine goesL_ (some 16) rfl rfl Try.func61 (by kernel_rfl) rfl #[.int .u64 n, .int .i64 wd] rfl (by (try simp only [List.map_toArray, List.map_cons, List.map_nil]); first | done | rfl) ?_; (with_reducible refine (fits_calls n wd _ HN.out HW.out).mono ?_); rintro e w1 ⟨rfl, hb⟩; refine ⟨_, rfl, ?_⟩; rw [decide_eq_false HF.out]; have n0_ := Aside0.mk (below_step (by repeat (first | exact HB.out | apply below_alloc | apply pw_below_drewN | apply below_drew1)) hb); have n1_ := Aside0.mk (Sep.below (by repeat (first | exact HS.out | apply sep_alloc | apply sep_drewN | apply sep_drew)) hb); clear HB HS; have HB := n0_; have HS := n1_; clear n0_ n1_ hb; clear hc0 hf0; have hc0 := Sep.c10 HS.out.p2))
    go_ret
    exact HST.out 1 (by decide) HC.out _ HS.out HB.out
end Go.Proofs.Ythkpnnbjcendcaa.Sc
namespace Go.Proofs.Ythkpnnbjcendcaa.Sc
set_option maxHeartbeats 8000000 in
set_option maxRecDepth 100000 in
theorem refbytes_calls (base g : Nat) (F0 : Nat → Prop) (L : List Bool) (w : World) (hO : Own base w (refR base g L F0)) (hm : L.length ≤ 262144) :
  Calls Try.prog 26 #[.pointer (some ⟨g, 0, none⟩)] w fun e w' => ∃ v, e = .returned v ∧ Kd.R (Kd.int .u8) 5 w' w.heap.size (fun _ => True) v (pack L) ∧ Below w.heap.size w w' := by
 obtain ⟨v0, hb0, hr0, hF⟩ := hO.now
 obtain ⟨A0, c0, rfl⟩ := Kd.R_slice hr0
 have HB := Aside0.mk (Below.refl w.heap.size w)
 have HS := Aside0.mk (Sep.nil w.heap.size w)
 have HG := Aside0.mk hb0
 have HR := Aside0.mk hr0
 have hc0 : w.cell? ⟨g, 0, none⟩ = some (.slice A0 L.length c0) := (blk_cell hb0 0).trans rfl
 obtain ⟨n8, hn8⟩ : ∃ n8 : Nat, n8 = (L.length + 7) / 8 := ⟨_, rfl⟩
 have hw8 : wrap64 (Int.tdiv (wrap64 ((L.length : Int) + 7)) 8) = (n8 : Int) := by
  rw [w64 (x := (L.length : Int) + 7) (by omega) (by omega), tdiv_pos (by omega), w64 (by omega) (by omega)]; omega
 have HM := Aside0.mk hm
 have H8 := Aside0.mk hn8
 clear hO hb0 hr0 hm hn8 hF
 go_enter Try.func26, Try.ntmps26
 go_wp2_with (first
  | ((with_reducible refine gate_dst (N := 12) rfl ?_); (try (refine gate_guard (by rfl) ?_; dsimp only)); (refine wp_make (Kd.int .u8) (w0 := w) rfl (N := 12) rfl 24 5 (.tmp 11) (.tmp 11) rfl (n8) Try.underlying24 (.int .u8 0) 1 info5 rfl (by decide) (by omega) (0) (rfl) (by have := HM.out; have := H8.out; omega) (by repeat (first | exact HS.out | apply sep_alloc | apply sep_drewN | apply sep_drew)) (by repeat (first | exact HB.out | apply below_alloc | apply pw_below_drewN | apply below_drew1)) ?hx_ ?hy_ ?_; (case hx_ => first | rfl | (go_simp; done)); (case hy_ => first | rfl | (go_simp; done))); intro A_ c_ w_ F_ hs_ hb_; clear HB HS; have HB := Aside0.mk hb_; have HS := Aside0.mk hs_; clear hs_ hb_; (clear hc0)))
 go_loopg [4] L.length (fun kq v4 w' => ∃ (p : Nat) (F : Nat → Prop) (B : List Int), v4 = .int .i64 (p : Int) ∧ Aside0 (kq + p = L.length ∧ B = packN n8 (L.take p)) ∧ Aside0 (Sep w.heap.size w' [row F (Kd.int .u8) 5 w.heap.size (.slice A_ n8 c_) B]) ∧ Aside0 (Below w.heap.size w w'))
 case atStart => exact ⟨0, _, _, rfl, ⟨by omega, by rw [List.take_zero, packN_nil]⟩, HS, HB⟩
 case round =>
  clear HS HB hw8
  obtain ⟨p, F, B, rfl, HI, HS, HB⟩ := hrel
  have hc0 : wr.cell? ⟨g, 0, none⟩ = some (.slice A0 L.length c0) := (blk_cell (blk_below HG.out HB.out) 0).trans rfl
  by_cases hlt : p < L.length
  ·obtain ⟨k1, rfl⟩ : ∃ m, gk = m + 1 := ⟨gk - 1, by have := HI.out; omega⟩
   have c1b : decide ((p : Int) < (L.length : Int)) = true := decide_eq_true (by omega)
   have c1n : decide (p < L.length) = true := decide_eq_true hlt
   have c2 : 0 ≤ (p : Int) := by omega
   have hnx : wrap64 ((p : Int) + 1) = ((p + 1 : Nat) : Int) := by have := HM.out; rw [w64 (by omega) (by omega)]; simp
   obtain ⟨ad, e1, hx0⟩ := Kd.at_bool (Kd.R_reads' HR.out).2.2 (p : Int) c2 (by omega)
   cases e1
   rw [Int.toNat_natCast] at hx0
   replace hx0 := (HB.out.cell (World.block_lt_of_cell? w _ hx0)).trans hx0
   have hget : L.take (p + 1) = L.take p ++ [rdOf false L (p : Int)] := by
    rw [List.take_succ_eq_append_getElem hlt]
    unfold rdOf
    rw [Int.toNat_natCast, getD_lt _ _ _ hlt]
   have HX := Aside0.mk hnx
   have HGT := Aside0.mk hget
   have c4 := eq_true hlt
   have c5 := eq_true (show (p : Int) < (L.length : Int) by omega)
   have c6 := eq_true c2
   have hp8 : p / 8 < n8 := by have := H8.out; omega
   have hlB : B.length = n8 := by rw [HI.out.2, packN_length]
   obtain ⟨gb, cb, e2, hgb⟩ := Kd.R_form (Sep.R HS.out) (by omega)
   obtain ⟨rfl, rfl⟩ : A_ = some ⟨gb, 0, none⟩ ∧ c_ = cb := by injection e2 with h1 h2 h3; exact ⟨h1, h3⟩
   cases hv : rdOf false L (p : Int) with
   | false =>
    rw [hv] at hx0 HGT
    have HP := Aside0.mk (show B = packN n8 (L.take (p + 1)) by rw [HGT.out, packN_false]; exact HI.out.2)
    clear hnx hget hlt c2 hp8 hv hgb e2 hlB
    go_wp2
    go_roundg k1
    case measure => omega
    case rel => exact ⟨p + 1, _, B, (by first | rfl | rw [HX.out]), ⟨by have := HI.out; omega, HP.out⟩, HS, HB⟩
   | true =>
    rw [hv] at hx0 HGT
    have hlen : (L.take p).length = p := by rw [List.length_take]; omega
    obtain ⟨hp1, hp2, hp3⟩ := packN_true n8 (L.take p) (by rw [hlen]; exact hp8)
    rw [hlen, ← HI.out.2] at hp1 hp2 hp3
    obtain ⟨q, hq⟩ : ∃ q : Nat, q = p / 8 := ⟨_, rfl⟩
    rw [← hq] at hp1 hp2 hp3
    obtain ⟨x, hx⟩ : ∃ x : Int, x = B.getD q 0 := ⟨_, rfl⟩
    rw [← hx] at hp1 hp2 hp3
    have HP1 := Aside0.mk hp1
    have HP2 := Aside0.mk hp2
    have HP3 := Aside0.mk hp3
    have HXX := Aside0.mk hx
    have HQ := Aside0.mk (show q < n8 by rw [hq]; exact hp8)
    have HQ2 := Aside0.mk hq
    obtain ⟨r, hr⟩ : ∃ r : Nat, r = p % 8 := ⟨_, rfl⟩
    have HR2 := Aside0.mk hr
    clear hp1 hp2 hp3 hx hp8 hv hgb e2 hlB hlen hget
    have hq2 : Int.tdiv (p : Int) 8 = (q : Int) := by rw [tdiv_pos (by omega)]; omega
    have hq3 : wrap64 (q : Int) = (q : Int) := w64 (by omega) (by have := HM.out; omega)
    have hr2 : Int.tmod (p : Int) 8 = (r : Int) := by rw [tmod_pos (by omega)]; omega
    have hr0 := eq_true (show 0 ≤ (r : Int) by omega)
    have hq1 := eq_true HQ.out
    have hq0 := eq_true (show 0 ≤ (q : Int) by omega)
    have hcx := (Sep.celli HS.out q HQ.out).1
    rw [← HXX.out] at hcx
    clear hnx hlt c2 hq hr
    go_wp2
    refine start_ (n := 14) (S := fun w' => w'.cell? ⟨gb, q, none⟩ = some (.int .u8 x)) (ds := [13]) #[false, false, false, false, false, false, false, false, false, false, false, false, false, false] (by kernel_rfl) rfl rfl (hcx) (fun hHeld => ?_)
    have n0_ := Aside0.mk (below_drew HB.out)
    have n1_ := Aside0.mk (sep_drew HS.out)
    clear HB HS
    have HB := n0_
    have HS := n1_
    clear n0_ n1_
    generalize (World.drew wr) = wd_ at HB HS hHeld ⊢
    refine pure_ (i := 0) (N := some 29) (v := ?_) (a' := ?_) #[true, false, false, false, false, false, false, false, false, false, false, false, false, false] rfl rfl (by kernel_rfl) (fun _ _ _ h => h) (Or.inl ⟨by rfl, ?_⟩) ?_ ?_
    rotate_left
    ·intro w'
     go_simp
     with_reducible rfl
    rotate_left
    ·simp only [Act.put, sA_, sB_, sC_, i64_w, i32_w]
     rfl
    refine pure_ (i := 1) (N := some 30) (v := ?_) (a' := ?_) #[true, true, false, false, false, false, false, false, false, false, false, false, false, false] rfl rfl (by kernel_rfl) (fun _ _ _ h => h) (Or.inl ⟨by rfl, ?_⟩) ?_ ?_
    rotate_left
    ·intro w'
     go_simp
     with_reducible rfl
    rotate_left
    ·simp only [Act.put, sA_, sB_, sC_, i64_w, i32_w]
     rfl
    refine pure_ (i := 2) (N := some 31) (v := ?_) (a' := ?_) #[true, true, true, false, false, false, false, false, false, false, false, false, false, false] rfl rfl (by kernel_rfl) (fun _ _ _ h => h) (Or.inl ⟨by rfl, ?_⟩) ?_ ?_
    rotate_left
    ·intro w'
     go_simp
     with_reducible rfl
    rotate_left
    ·simp only [Act.put, sA_, sB_, sC_, i64_w, i32_w]
     rfl
    refine pure_ (i := 3) (N := some 32) (v := ?_) (a' := ?_) #[true, true, true, true, false, false, false, false, false, false, false, false, false, false] rfl rfl (by kernel_rfl) (fun _ _ _ h => h) (Or.inl ⟨by rfl, ?_⟩) ?_ ?_
    rotate_left
    ·intro w'
     go_simp
     with_reducible rfl
    rotate_left
    ·simp only [Act.put, sA_, sB_, sC_, i64_w, i32_w]
     rfl
    refine pure_ (i := 4) (N := some 33) (v := ?_) (a' := ?_) #[true, true, true, true, true, false, false, false, false, false, false, false, false, false] rfl rfl (by kernel_rfl) (fun _ _ _ h => h) (Or.inl ⟨by rfl, ?_⟩) ?_ ?_
    rotate_left
    ·intro w'
     go_simp
     with_reducible rfl
    rotate_left
    ·simp only [Act.put, sA_, sB_, sC_, i64_w, i32_w]
     rfl
    refine pure_ (i := 5) (N := some 34) (v := ?_) (a' := ?_) #[true, true, true, true, true, true, false, false, false, false, false, false, false, false] rfl rfl (by kernel_rfl) (fun _ _ _ h => h) (Or.inl ⟨by rfl, ?_⟩) ?_ ?_
    rotate_left
    ·intro w'
     go_simp
     with_reducible rfl
    rotate_left
    ·simp only [Act.put, sA_, sB_, sC_, i64_w, i32_w]
     rfl
    refine pure_ (i := 6) (N := some 35) (v := ?_) (a' := ?_) #[true, true, true, true, true, true, true, false, false, false, false, false, false, false] rfl rfl (by kernel_rfl) (fun _ _ _ h => h) (Or.inl ⟨by rfl, ?_⟩) ?_ ?_
    rotate_left
    ·intro w'
     go_simp
     with_reducible rfl
    rotate_left
    ·simp only [Act.put, sA_, sB_, sC_, i64_w, i32_w]
     rfl
    refine pure_ (i := 8) (N := some 37) (v := ?_) (a' := ?_) #[true, true, true, true, true, true, true, false, true, false, false, false, false, false] rfl rfl (by kernel_rfl) (fun _ _ _ h => h) (Or.inl ⟨by rfl, ?_⟩) ?_ ?_
    rotate_left
    ·intro w'
     go_simp
     with_reducible rfl
    rotate_left
    ·simp only [Act.put, sA_, sB_, sC_, i64_w, i32_w]
     rfl
    refine pure_ (i := 9) (N := some 38) (v := ?_) (a' := ?_) #[true, true, true, true, true, true, true, false, true, true, false, false, false, false] rfl rfl (by kernel_rfl) (fun _ _ _ h => h) (Or.inl ⟨by rfl, ?_⟩) ?_ ?_
    rotate_left
    ·intro w'
     go_simp
     with_reducible rfl
    rotate_left
    ·simp only [Act.put, sA_, sB_, sC_, i64_w, i32_w]
     rfl
    refine pure_ (i := 10) (N := some 39) (v := ?_) (a' := ?_) #[true, true, true, true, true, true, true, false, true, true, true, false, false, false] rfl rfl (by kernel_rfl) (fun _ _ _ h => h) (Or.inl ⟨by rfl, ?_⟩) ?_ ?_
    rotate_left
    ·intro w'
     go_simp
     with_reducible rfl
    rotate_left
    ·simp only [Act.put, sA_, sB_, sC_, i64_w, i32_w]
     rfl
    refine take_ (i := 7) (N := some 36) (v := ?_) (a' := ?_) #[true, true, true, true, true, true, true, true, true, true, true, false, false, false] rfl rfl (by kernel_rfl) (fun _ _ _ h => h) (Or.inl ⟨by rfl, ?_⟩) hHeld ?_ ?_
    rotate_left
    ·intro w' s0
     go_simp
     with_reducible rfl
    rotate_left
    ·simp only [Act.put, sA_, sB_, sC_, i64_w, i32_w]
     rfl
    refine pure_ (i := 11) (N := some 40) (v := ?_) (a' := ?_) #[true, true, true, true, true, true, true, true, true, true, true, true, false, false] rfl rfl (by kernel_rfl) (fun _ _ _ h => h) (Or.inl ⟨by rfl, ?_⟩) ?_ ?_
    rotate_left
    ·intro w'
     go_simp
     with_reducible rfl
    rotate_left
    ·simp only [Act.put, sA_, sB_, sC_, i64_w, i32_w]
     rfl
    refine pure_ (i := 12) (N := some 41) (v := ?_) (a' := ?_) #[true, true, true, true, true, true, true, true, true, true, true, true, true, false] rfl rfl (by kernel_rfl) (fun _ _ _ h => h) (Or.inl ⟨by rfl, ?_⟩) ?_ ?_
    rotate_left
    ·intro w'
     go_simp
     with_reducible rfl
    rotate_left
    ·simp only [Act.put, sA_, sB_, sC_, i64_w, i32_w]
     rfl
    refine last_ (i := 13) (N := none) #[true, true, true, true, true, true, true, true, true, true, true, true, true, true] rfl rfl (by kernel_rfl) (by decide) (fun K hK => ?_)
    have hf := (Sep.celli HS.out q HQ.out).2
    refine skip_ (w1 := ?_) (by rfl) rfl ?_ ?_
    rotate_left
    ·go_simp
     rfl
    refine hK.out _ _ ?_
    clear hK K
    refine done_ (by kernel_rfl) ?_
    have hy : B.set q (IntKind.u8.wrap (x + 128 / 2 ^ min r 8)) = packN n8 (L.take (p + 1)) := by
     have h2 := HP2.out
     have h3 := HP3.out
     rw [HGT.out, HP1.out, HR2.out, Nat.min_eq_left (by omega)]
     rw [wraps_u8 _ (by
      have : (0 : Int) ≤ 128 / 2 ^ (p % 8) := Int.ediv_nonneg (by decide) (Int.pow_nonneg (by decide))
      omega) (by omega)]
    have HY := Aside0.mk hy
    obtain ⟨F9, hs9⟩ := Sep.puti HS.out q (IntKind.u8.wrap (x + 128 / 2 ^ min r 8))
    have HS9 := Aside0.mk hs9
    have HB9 := Aside0.mk (below_set (j := q) (v := .int .u8 (IntKind.u8.wrap (x + 128 / 2 ^ min r 8))) HB.out (Nat.le_of_lt_succ (Nat.lt_succ_of_le (HS.out.own.lo gb (HS.out.R.1 gb (by simp [Value.ownBlock]))))))
    clear hy hs9
    go_wp2
    go_roundg k1
    case measure => omega
    case rel => exact ⟨p + 1, F9, _, (by first | rfl | rw [HX.out]), ⟨by have := HI.out; omega, HY.out⟩, HS9, HB9⟩
  ·have c1b : decide ((p : Int) < (L.length : Int)) = false := decide_eq_false (by omega)
   have c1n : decide (p < L.length) = false := decide_eq_false hlt
   have hB : B = pack L := by
    rw [HI.out.2, List.take_of_length_le (by omega), H8.out]
    rfl
   have HE := Aside0.mk hB
   clear hlt hB
   go_wp2
   go_ret
   exact ⟨_, rfl, by rw [← HE.out]; exact Kd.R_mono (Sep.R HS.out) (fun _ _ => trivial), HB.out⟩
end Go.Proofs.Ythkpnnbjcendcaa.Sc
end
end
