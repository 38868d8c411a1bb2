/- What the law leans on, part 5: Bpu, Pl. -/
import Derived.Test.YthkpnnbjcendcaaQd4
namespace SzQd5
theorem sA_ {α : Type} {l : List α} {i : Nat} {a : α} : l.toArray.setIfInBounds i a = (l.set i a).toArray := List.setIfInBounds_toArray ..
theorem sB_ {α : Type} {x : α} {l : List α} {a : α} : (x :: l).set 0 a = a :: l := rfl
theorem sC_ {α : Type} {x : α} {l : List α} {n : Nat} {a : α} : (x :: l).set (n + 1) a = x :: l.set n a := rfl
end SzQd5
open SzQd5
section
namespace Go.Proofs.Ythkpnnbjcendcaa.X
open Go.RowKit Go.Proofs.YthkpnnbjcendcaaW.PrintWords Go.Proofs.YthkpnnbjcendcaaW.PrintLast Go.Proofs.YthkpnnbjcendcaaW.PrintMore
attribute [local go_sem] max2_int min2_int max_two min_two max_three min_three max_four min_four
set_option linter.unusedVariables false
set_option linter.unusedSimpArgs false
mutual
def bits_Bits_Put.j0 : Nat → List Int → Int → Int → Int → Bool → Option (Int × List Int × Int)
 | 0, _, _, _, _, _ => none
 | k + 1, x0, x1, x2, x3, x14 => if x14 = true then (some (20, x0, x1)) else (if x3 < 64 then (if 0 ≤ x3 then (bits_Bits_Put.j1 k x0 x1 x2 x3 ((shr .u64 x2 x3) != 0)) else (none)) else (bits_Bits_Put.j1 k x0 x1 x2 x3 false))
def bits_Bits_Put.j1 : Nat → List Int → Int → Int → Int → Bool → Option (Int × List Int × Int)
 | 0, _, _, _, _, _ => none
 | k + 1, x0, x1, x2, x3, x21 => if x21 = true then (some (1, x0, x1)) else (if x1 > (wrap64 (262144 - x3)) then (some (3, x0, x1)) else (bits_Bits_Put.l0 k x0 x1 x2 x3))
def bits_Bits_Put.l0 : Nat → List Int → Int → Int → Int → Option (Int × List Int × Int)
 | 0, _, _, _, _ => none
 | k + 1, x0, x1, x2, x7 => if x7 > 0 then (if (wrap64 (8 - (Int.tmod x1 8))) = 8 then (if x0.length < 140737488355328 then ((some (x0 ++ [0] : List Int)).bind fun y101 => (if 0 ≤ (wrap64 (x7 - (mn (wrap64 (8 - (Int.tmod x1 8))) x7))) then (if 0 ≤ (wrap64 (8 - (mn (wrap64 (8 - (Int.tmod x1 8))) x7))) then (if 0 ≤ (wrap64 ((y101.length : Int) - 1)) then (if (wrap64 ((y101.length : Int) - 1)) < (y101.length : Int) then (if 0 ≤ (wrap64 ((wrap64 (8 - (Int.tmod x1 8))) - (mn (wrap64 (8 - (Int.tmod x1 8))) x7))) then (bits_Bits_Put.l0 k (y101.set ((wrap64 ((y101.length : Int) - 1)) : Int).toNat (Go.bits .or .u8 (rd y101 (wrap64 ((y101.length : Int) - 1))) (shl .u8 (Go.bits .and .u8 ((shr .u64 x2 (wrap64 (x7 - (mn (wrap64 (8 - (Int.tmod x1 8))) x7)))) % 256) (shr .u8 255 (wrap64 (8 - (mn (wrap64 (8 - (Int.tmod x1 8))) x7))))) (wrap64 ((wrap64 (8 - (Int.tmod x1 8))) - (mn (wrap64 (8 - (Int.tmod x1 8))) x7)))))) (wrap64 (x1 + (mn (wrap64 (8 - (Int.tmod x1 8))) x7))) x2 (wrap64 (x7 - (mn (wrap64 (8 - (Int.tmod x1 8))) x7)))) else (none)) else (none)) else (none)) else (none)) else (none))) else (none)) else (if 0 ≤ (wrap64 (x7 - (mn (wrap64 (8 - (Int.tmod x1 8))) x7))) then (if 0 ≤ (wrap64 (8 - (mn (wrap64 (8 - (Int.tmod x1 8))) x7))) then (if 0 ≤ (wrap64 ((x0.length : Int) - 1)) then (if (wrap64 ((x0.length : Int) - 1)) < (x0.length : Int) then (if 0 ≤ (wrap64 ((wrap64 (8 - (Int.tmod x1 8))) - (mn (wrap64 (8 - (Int.tmod x1 8))) x7))) then (bits_Bits_Put.l0 k (x0.set ((wrap64 ((x0.length : Int) - 1)) : Int).toNat (Go.bits .or .u8 (rd x0 (wrap64 ((x0.length : Int) - 1))) (shl .u8 (Go.bits .and .u8 ((shr .u64 x2 (wrap64 (x7 - (mn (wrap64 (8 - (Int.tmod x1 8))) x7)))) % 256) (shr .u8 255 (wrap64 (8 - (mn (wrap64 (8 - (Int.tmod x1 8))) x7))))) (wrap64 ((wrap64 (8 - (Int.tmod x1 8))) - (mn (wrap64 (8 - (Int.tmod x1 8))) x7)))))) (wrap64 (x1 + (mn (wrap64 (8 - (Int.tmod x1 8))) x7))) x2 (wrap64 (x7 - (mn (wrap64 (8 - (Int.tmod x1 8))) x7)))) else (none)) else (none)) else (none)) else (none)) else (none))) else (some (0, x0, x1))
end
def bits_Bits_Put.f (k : Nat) (l0 : List Int) (a1 : Int) (a2 : Int) (a3 : Int) : Option (Int × List Int × Int) := if a3 < 0 then (bits_Bits_Put.j0 k l0 a1 a2 a3 true) else (bits_Bits_Put.j0 k l0 a1 a2 a3 (decide (a3 > 64)))
def bits_Bits_Put.T15 : Bool × List (List Nat × List Nat) := (true, [([], []), ([], []), ([], []), ([1, 2], [1, 2]), ([0, 3], [0, 3]), ([4], [4]), ([], []), ([6], [6]), ([7], [7]), ([5, 8], [5, 8]), ([9, 0, 1, 2, 3, 4, 5, 6, 7, 8, 9], [9])])
def bits_Bits_Put.B15 : List Nat := [0, 0, 0, 6, 15, 31, 0, 64, 192, 511, 1023]
theorem bits_Bits_Put.tab15 : rtab .any (opsOf Try.f22 15) = bits_Bits_Put.T15 := by kernel_rfl
theorem bits_Bits_Put.bits15 : waitsOk bits_Bits_Put.T15.2 bits_Bits_Put.B15 = true := by kernel_rfl
def bits_Bits_Put.T16 : Bool × List (List Nat × List Nat) := (true, [([], []), ([0], [0]), ([1], [1]), ([2], [2]), ([], []), ([4], [4]), ([5], [5]), ([6], [6]), ([7], [7]), ([8], [8]), ([3, 9], [3, 9]), ([10], [10]), ([], []), ([], []), ([], []), ([13, 14], [13, 14]), ([12, 15], [12, 15]), ([11, 16], [11, 16]), ([3, 9, 0, 1, 2, 3, 4, 5, 6, 7, 8, 9, 10, 11, 12, 13, 14, 15, 16, 17], [3, 9]), ([18, 17, 0, 1, 2, 3, 4, 5, 6, 7, 8, 9, 10, 11, 12, 13, 14, 15, 16, 17], [17, 18])])
def bits_Bits_Put.B16 : List Nat := [0, 1, 3, 7, 0, 16, 48, 112, 240, 496, 1023, 2047, 0, 0, 0, 24576, 61440, 131071, 262143, 524287]
theorem bits_Bits_Put.tab16 : rtab .any (opsOf Try.f22 16) = bits_Bits_Put.T16 := by kernel_rfl
theorem bits_Bits_Put.bits16 : waitsOk bits_Bits_Put.T16.2 bits_Bits_Put.B16 = true := by kernel_rfl
set_option maxHeartbeats 8000000 in
set_option maxRecDepth 100000 in
theorem bits_Bits_Put.calls (k : Nat) (g : Nat) (u9000_ : Value) (l0 : List Int) (a1 : Int) (a2 : Int) (a3 : Int) (r1 : Int) (r2 : List Int) (r3 : Int) (w0 w : World) (hB : Below w0.heap.size w0 w) (hg0 : w0.heap.size ≤ g) (hb0 : w.heap[g]? = some (.cells #[u9000_, .int .i64 a1] 26 (0, 0))) (ho0 : Kd.R (Kd.int .u8) 5 w w0.heap.size (fun k_ => k_ ≠ g) u9000_ l0) (h : bits_Bits_Put.f k l0 a1 a2 a3 = some (r1, r2, r3)) :
  Calls Try.prog 22 #[.pointer (some ⟨g, 0, none⟩), .int .u64 a2, .int .i64 a3] w fun e w' => ∃ v1_ : Value, e = .returned (.int .i64 r1) ∧ w'.heap[g]? = some (.cells #[v1_, .int .i64 r3] 26 (0, 0)) ∧ Kd.R (Kd.int .u8) 5 w' w0.heap.size (fun k_ => k_ ≠ g ∧ (some k_ = u9000_.ownBlock ∨ w.heap.size ≤ k_)) v1_ r2 ∧ Below w0.heap.size w0 w' ∧ Kept w w' (fun k_ => k_ = g ∨ some k_ = u9000_.ownBlock) := by
 have HO0 := Aside0.mk (show Kd.R (Kd.int .u8) 5 w w0.heap.size (fun k_ => k_ ≠ g ∧ (some k_ = u9000_.ownBlock ∨ w.heap.size ≤ k_)) u9000_ l0 from Kd.R_mono (Kd.R_tight rfl ho0) (fun k_ hk => ⟨ho0.1 k_ hk.symm, .inl hk⟩))
 have BK := Aside0.mk hb0
 have HK := Aside0.mk (Kept.refl w (fun k_ => k_ = g ∨ some k_ = u9000_.ownBlock))
 have HW0 := Aside0.mk hB.size
 have HB := Aside0.mk hB
 have HG0 := Aside0.mk hg0
 clear hB hb0 ho0 hg0
 have H : (if a3 < 0 then (bits_Bits_Put.j0 k l0 a1 a2 a3 true) else (bits_Bits_Put.j0 k l0 a1 a2 a3 (decide (a3 > 64)))) = some (r1, r2, r3) := h
 clear h
 have HC5 := Aside0.mk H
 clear H
 go_enter Try.func22, Try.ntmps22
 go_upto_region 3 with (fail)
 go_cut [14] (fun v14 wc => ∃ (kq : Nat) (x14_4 : Bool), v14 = .bool x14_4 ∧ Aside0 (bits_Bits_Put.j0 kq l0 a1 a2 a3 x14_4 = some (r1, r2, r3)) ∧ Aside0 (kq ≤ k) ∧ Aside0 (Kd.R (Kd.int .u8) 5 wc w0.heap.size (fun k_ => k_ ≠ g ∧ (some k_ = u9000_.ownBlock ∨ w.heap.size ≤ k_)) u9000_ l0) ∧ Aside0 (wc.heap[g]? = some (.cells #[u9000_, .int .i64 a1] 26 (0, 0))) ∧ Aside0 (Kept w wc (fun k_ => k_ = g ∨ some k_ = u9000_.ownBlock)) ∧ Aside0 (Below w0.heap.size w0 wc))
 case first =>
  have H := HC5.out
  clear HC5
  by_cases c6 : a3 < 0
  ·rw [if_pos c6] at H
   have c6b0 : decide (a3 < 0) = true := decide_eq_true c6
   clear c6
   (first | rw [c6b0] | (simp only [i64_w, i32_w]; rw [c6b0]) | skip)
   have H' := Aside0.mk H
   clear H
   go_wp2
   go_meet
   case rel => exact ⟨_, (true), (by first | rfl | (simp; done) | (simp [*]; done) | (simp <;> grind)), H', ⟨by first | omega | exact Nat.le_refl _⟩, ⟨by (with_reducible repeat (first | apply Kd.R_alloc | apply Kd.R_drewN | apply Kd.R_drew)); exact HO0.out⟩, ⟨by (with_reducible repeat (first | refine blk_drewN ?_ _ | refine blk_drew ?_ | refine blk_alloc ?_ _)); exact BK.out⟩, ⟨by repeat (first | (with_reducible first | exact HK.out | apply Kept.alloc | apply Kept.drewN | apply Kept.drew) | exact HK.out)⟩, ⟨by repeat (first | exact HB.out | apply below_alloc | apply pw_below_drewN | apply below_drew1)⟩⟩
  ·rw [if_neg c6] at H
   have c6b0 : decide (a3 < 0) = false := decide_eq_false c6
   clear c6
   (first | rw [c6b0] | (simp only [i64_w, i32_w]; rw [c6b0]) | skip)
   have H' := Aside0.mk H
   clear H
   go_wp2
   go_meet
   case rel => exact ⟨_, (decide (a3 > 64)), (by first | rfl | (simp; done) | (simp [*]; done) | (simp <;> grind)), H', ⟨by first | omega | exact Nat.le_refl _⟩, ⟨by (with_reducible repeat (first | apply Kd.R_alloc | apply Kd.R_drewN | apply Kd.R_drew)); exact HO0.out⟩, ⟨by (with_reducible repeat (first | refine blk_drewN ?_ _ | refine blk_drew ?_ | refine blk_alloc ?_ _)); exact BK.out⟩, ⟨by repeat (first | (with_reducible first | exact HK.out | apply Kept.alloc | apply Kept.drewN | apply Kept.drew) | exact HK.out)⟩, ⟨by repeat (first | exact HB.out | apply below_alloc | apply pw_below_drewN | apply below_drew1)⟩⟩
 case rest =>
  clear HC5
  try clear c2
  try clear p2
  try clear c6
  try clear c6b0
  obtain ⟨kq, x14_4, rfl, HA, HJ4, HO_0, BK, HK, HB⟩ := hcut
  cases kq with
  | zero => exact absurd HA.out (by simp [bits_Bits_Put.j0])
  | succ kj4 =>
   have H := HA.out
   clear HA
   simp only [bits_Bits_Put.j0] at H
   by_cases c7 : x14_4 = true
   ·subst c7
    have H1 : (some (20, l0, a1)) = some (r1, r2, r3) := by rw [if_pos rfl] at H; exact H
    clear H
    have H := H1
    clear H1
    simp only [Option.some.injEq, Prod.mk.injEq] at H
    obtain ⟨rfl, rfl, rfl⟩ := H
    go_wp2
    go_ret
    exact ⟨_, by first | rfl | (simp [errW_none, errW_some] <;> rfl) | (simp [*, errW_none, errW_some] <;> rfl), by (with_reducible repeat (first | refine blk_drewN ?_ _ | refine blk_drew ?_ | refine blk_alloc ?_ _)); exact BK.out, by (with_reducible repeat (first | apply Kd.R_alloc | apply Kd.R_drewN | apply Kd.R_drew)); exact HO_0.out, by repeat (first | exact HB.out | apply below_alloc | apply pw_below_drewN | apply below_drew1), by repeat (first | (with_reducible first | exact HK.out | apply Kept.alloc | apply Kept.drewN | apply Kept.drew) | exact HK.out)⟩
   ·replace c7 := Bool.eq_false_iff.mpr c7
    subst c7
    have H1 : (if a3 < 64 then (if 0 ≤ a3 then (bits_Bits_Put.j1 kj4 l0 a1 a2 a3 ((shr .u64 a2 a3) != 0)) else (none)) else (bits_Bits_Put.j1 kj4 l0 a1 a2 a3 false)) = some (r1, r2, r3) := by rw [if_neg (show ¬ (false = true) by decide)] at H; exact H
    clear H
    have H := H1
    clear H1
    have HC8 := Aside0.mk H
    clear H
    go_upto_region 5 with (fail)
    go_cut [21] (fun v21 wc => ∃ (kq : Nat) (x21_7 : Bool), v21 = .bool x21_7 ∧ Aside0 (bits_Bits_Put.j1 kq l0 a1 a2 a3 x21_7 = some (r1, r2, r3)) ∧ Aside0 (kq ≤ kj4) ∧ Aside0 (Kd.R (Kd.int .u8) 5 wc w0.heap.size (fun k_ => k_ ≠ g ∧ (some k_ = u9000_.ownBlock ∨ w.heap.size ≤ k_)) u9000_ l0) ∧ Aside0 (wc.heap[g]? = some (.cells #[u9000_, .int .i64 a1] 26 (0, 0))) ∧ Aside0 (Kept w wc (fun k_ => k_ = g ∨ some k_ = u9000_.ownBlock)) ∧ Aside0 (Below w0.heap.size w0 wc))
    case first =>
     have H := HC8.out
     clear HC8
     by_cases c9 : a3 < 64
     ·rw [if_pos c9] at H
      have c9b0 : decide (a3 < 64) = true := decide_eq_true c9
      clear c9
      (first | rw [c9b0] | (simp only [i64_w, i32_w]; rw [c9b0]) | skip)
      by_cases c10 : 0 ≤ a3
      ·rw [if_pos c10] at H
       have c10b0 := eq_true c10
       have c10b1 : decide (0 ≤ a3) = true := decide_eq_true c10
       clear c10
       obtain ⟨ji11, hji11⟩ : ∃ j_ : Int, (shr .u64 a2 a3) = j_ := ⟨_, rfl⟩
       replace H : (bits_Bits_Put.j1 kj4 l0 a1 a2 a3 ((ji11) != 0)) = some (r1, r2, r3) := by first | (rw [hji11] at H; exact H) | (simp only [hji11] at H ⊢; exact H)
       have hji11_ : (a2 / 2 ^ min a3.toNat 64) = ji11 := hji11
       have hji11z : a3 ≤ 64 → (a2 / 2 ^ a3.toNat) = ji11 := shr_small hji11
       have H' := Aside0.mk H
       clear H
       go_wp2
       go_meet
       case rel => exact ⟨_, (((ji11) != 0)), (by first | rfl | (simp; done) | (simp only [← hji11] <;> (first | rfl | simp)) | (simp [*]; done) | (simp <;> grind)), (by first | exact H' | (simp only [hji11]; exact H')), ⟨by have := HJ4.out; first | omega | exact Nat.le_refl _⟩, ⟨by (with_reducible repeat (first | apply Kd.R_alloc | apply Kd.R_drewN | apply Kd.R_drew)); exact HO_0.out⟩, ⟨by (with_reducible repeat (first | refine blk_drewN ?_ _ | refine blk_drew ?_ | refine blk_alloc ?_ _)); exact BK.out⟩, ⟨by repeat (first | (with_reducible first | exact HK.out | apply Kept.alloc | apply Kept.drewN | apply Kept.drew) | exact HK.out)⟩, ⟨by repeat (first | exact HB.out | apply below_alloc | apply pw_below_drewN | apply below_drew1)⟩⟩
      ·rw [if_neg c10] at H
       exact absurd H (by simp)
     ·rw [if_neg c9] at H
      have c9b0 : decide (a3 < 64) = false := decide_eq_false c9
      clear c9
      (first | rw [c9b0] | (simp only [i64_w, i32_w]; rw [c9b0]) | skip)
      have H' := Aside0.mk H
      clear H
      go_wp2
      go_meet
      case rel => exact ⟨_, (false), (by first | rfl | (simp; done) | (simp [*]; done) | (simp <;> grind)), H', ⟨by have := HJ4.out; first | omega | exact Nat.le_refl _⟩, ⟨by (with_reducible repeat (first | apply Kd.R_alloc | apply Kd.R_drewN | apply Kd.R_drew)); exact HO_0.out⟩, ⟨by (with_reducible repeat (first | refine blk_drewN ?_ _ | refine blk_drew ?_ | refine blk_alloc ?_ _)); exact BK.out⟩, ⟨by repeat (first | (with_reducible first | exact HK.out | apply Kept.alloc | apply Kept.drewN | apply Kept.drew) | exact HK.out)⟩, ⟨by repeat (first | exact HB.out | apply below_alloc | apply pw_below_drewN | apply below_drew1)⟩⟩
    case rest =>
     clear HC8
     try clear c1
     try clear c2
     try clear p2
     try clear c6
     try clear c6b0
     try clear c7
     try clear c9
     try clear c9b0
     try clear c10
     try clear c10b0
     try clear c10b1
     try clear p2
     obtain ⟨kq, x21_7, rfl, HA, HJ7, HO_0, BK, HK, HB⟩ := hcut
     cases kq with
     | zero => exact absurd HA.out (by simp [bits_Bits_Put.j1])
     | succ kj7 =>
      have H := HA.out
      clear HA
      have hc1 : World.cell? _ ⟨g, 1, none⟩ = some (Value.int .i64 a1) := (blk_cell BK.out 1).trans rfl
      simp only [bits_Bits_Put.j1] at H
      by_cases c12 : x21_7 = true
      ·subst c12
       have H1 : (some (1, l0, a1)) = some (r1, r2, r3) := by rw [if_pos rfl] at H; exact H
       clear H
       have H := H1
       clear H1
       simp only [Option.some.injEq, Prod.mk.injEq] at H
       obtain ⟨rfl, rfl, rfl⟩ := H
       go_wp2
       go_ret
       exact ⟨_, by first | rfl | (simp [errW_none, errW_some] <;> rfl) | (simp [*, errW_none, errW_some] <;> rfl), by (with_reducible repeat (first | refine blk_drewN ?_ _ | refine blk_drew ?_ | refine blk_alloc ?_ _)); exact BK.out, by (with_reducible repeat (first | apply Kd.R_alloc | apply Kd.R_drewN | apply Kd.R_drew)); exact HO_0.out, by repeat (first | exact HB.out | apply below_alloc | apply pw_below_drewN | apply below_drew1), by repeat (first | (with_reducible first | exact HK.out | apply Kept.alloc | apply Kept.drewN | apply Kept.drew) | exact HK.out)⟩
      ·replace c12 := Bool.eq_false_iff.mpr c12
       subst c12
       have H1 : (if a1 > (wrap64 (262144 - a3)) then (some (3, l0, a1)) else (bits_Bits_Put.l0 kj7 l0 a1 a2 a3)) = some (r1, r2, r3) := by rw [if_neg (show ¬ (false = true) by decide)] at H; exact H
       clear H
       have H := H1
       clear H1
       by_cases c13 : a1 > (wrap64 (262144 - a3))
       ·rw [if_pos c13] at H
        have c13b0 : decide ((wrap64 (262144 - a3)) < a1) = true := decide_eq_true c13
        clear c13
        simp only [Option.some.injEq, Prod.mk.injEq] at H
        obtain ⟨rfl, rfl, rfl⟩ := H
        go_wp2
        go_ret
        exact ⟨_, by first | rfl | (simp [errW_none, errW_some] <;> rfl) | (simp [*, errW_none, errW_some] <;> rfl), by (with_reducible repeat (first | refine blk_drewN ?_ _ | refine blk_drew ?_ | refine blk_alloc ?_ _)); exact BK.out, by (with_reducible repeat (first | apply Kd.R_alloc | apply Kd.R_drewN | apply Kd.R_drew)); exact HO_0.out, by repeat (first | exact HB.out | apply below_alloc | apply pw_below_drewN | apply below_drew1), by repeat (first | (with_reducible first | exact HK.out | apply Kept.alloc | apply Kept.drewN | apply Kept.drew) | exact HK.out)⟩
       ·rw [if_neg c13] at H
        have c13b0 : decide ((wrap64 (262144 - a3)) < a1) = false := decide_eq_false c13
        clear c13
        have H' := Aside0.mk H
        clear H
        go_wp2
        clear hc1
        go_loopg [7] kj7 (fun kq v7 w' => ∃ (u0 : Value) (x0_3 : List Int) (x1_3 : Int) (x7_3 : Int), v7 = .int .i64 x7_3 ∧ Aside0 (bits_Bits_Put.l0 kq x0_3 x1_3 a2 x7_3 = some (r1, r2, r3)) ∧ Aside0 (kq ≤ kj7) ∧ Aside0 (Kd.R (Kd.int .u8) 5 w' w0.heap.size (fun k_ => k_ ≠ g ∧ (some k_ = u9000_.ownBlock ∨ w.heap.size ≤ k_)) u0 x0_3) ∧ Aside0 (w'.heap[g]? = some (.cells #[u0, .int .i64 x1_3] 26 (0, 0))) ∧ Aside0 (Kept w w' (fun k_ => k_ = g ∨ some k_ = u9000_.ownBlock)) ∧ Aside0 (Below w0.heap.size w0 w'))
        case atStart => exact ⟨u9000_, (l0), (a1), (a3), (by first | rfl | (simp; done) | (simp [*]; done) | (simp <;> grind)), H', ⟨Nat.le_refl _⟩, ⟨by (with_reducible repeat (first | apply Kd.R_alloc | apply Kd.R_drewN | apply Kd.R_drew)); exact HO_0.out⟩, ⟨by (with_reducible repeat (first | refine blk_drewN ?_ _ | refine blk_drew ?_ | refine blk_alloc ?_ _)); exact BK.out⟩, ⟨by repeat (first | (with_reducible first | exact HK.out | apply Kept.alloc | apply Kept.drewN | apply Kept.drew) | exact HK.out)⟩, ⟨by repeat (first | exact HB.out | apply below_alloc | apply pw_below_drewN | apply below_drew1)⟩⟩
        case round =>
         clear H'
         try clear c1
         try clear c2
         try clear p2
         try clear c6
         try clear c6b0
         try clear p6
         try clear c7
         try clear c9
         try clear c9b0
         try clear c10
         try clear c10b0
         try clear c10b1
         try clear c12
         try clear c13
         try clear c13b0
         try clear p2
         obtain ⟨u0, x0_3, x1_3, x7_3, rfl, HA, HK3, HO_0, BK, HK, HB⟩ := hrel
         cases gk with
         | zero => exact absurd HA.out (by simp [bits_Bits_Put.l0])
         | succ k3 =>
          have H := HA.out
          clear HA
          have hc1 : World.cell? wr ⟨g, 1, none⟩ = some (Value.int .i64 x1_3) := (blk_cell BK.out 1).trans rfl
          have hc0 : World.cell? wr ⟨g, 0, none⟩ = some u0 := (blk_cell BK.out 0).trans rfl
          have hf0 := blk_frozen BK.out 0
          simp only [bits_Bits_Put.l0] at H
          by_cases c14 : x7_3 > 0
          ·rw [if_pos c14] at H
           have c14b0 : decide (0 < x7_3) = true := decide_eq_true c14
           clear c14
           by_cases c15 : (wrap64 (8 - (Int.tmod x1_3 8))) = 8
           ·rw [if_pos c15] at H
            have c15b0 : ((wrap64 (8 - (Int.tmod x1_3 8))) == 8) = true := beq_iff_eq.mpr c15
            have c15b1 : ((wrap64 (8 - (Int.tmod x1_3 8))) != 8) = false := bne_eq_false_iff_eq.mpr c15
            clear c15
            by_cases c16 : x0_3.length < 140737488355328
            ·rw [if_pos c16] at H
             have LMc16 := Aside0.mk c16
             clear c16
             obtain ⟨y101, hy101⟩ : ∃ y_ : List Int, y_ = (x0_3 ++ [0]) := ⟨_, rfl⟩
             replace H : (if 0 ≤ (wrap64 (x7_3 - (mn (wrap64 (8 - (Int.tmod x1_3 8))) x7_3))) then (if 0 ≤ (wrap64 (8 - (mn (wrap64 (8 - (Int.tmod x1_3 8))) x7_3))) then (if 0 ≤ (wrap64 ((y101.length : Int) - 1)) then (if (wrap64 ((y101.length : Int) - 1)) < (y101.length : Int) then (if 0 ≤ (wrap64 ((wrap64 (8 - (Int.tmod x1_3 8))) - (mn (wrap64 (8 - (Int.tmod x1_3 8))) x7_3))) then (bits_Bits_Put.l0 k3 (y101.set ((wrap64 ((y101.length : Int) - 1)) : Int).toNat (Go.bits .or .u8 (rd y101 (wrap64 ((y101.length : Int) - 1))) (shl .u8 (Go.bits .and .u8 ((shr .u64 a2 (wrap64 (x7_3 - (mn (wrap64 (8 - (Int.tmod x1_3 8))) x7_3)))) % 256) (shr .u8 255 (wrap64 (8 - (mn (wrap64 (8 - (Int.tmod x1_3 8))) x7_3))))) (wrap64 ((wrap64 (8 - (Int.tmod x1_3 8))) - (mn (wrap64 (8 - (Int.tmod x1_3 8))) x7_3)))))) (wrap64 (x1_3 + (mn (wrap64 (8 - (Int.tmod x1_3 8))) x7_3))) a2 (wrap64 (x7_3 - (mn (wrap64 (8 - (Int.tmod x1_3 8))) x7_3)))) else (none)) else (none)) else (none)) else (none)) else (none)) = some (r1, r2, r3) := by first | (rw [hy101]; with_reducible exact H) | (have H2_ := (Option.bind_some _ _).symm.trans H; rw [hy101]; with_reducible exact H2_) | (have H2_ := (Option.bind_some _ _).symm.trans H; with_reducible exact H2_) | with_reducible exact H | (rw [hy101]; exact H) | exact H
             have Ny101 := Aside0.mk hy101
             clear hy101
             obtain ⟨ji17, hji17⟩ : ∃ j_ : Int, (mn (wrap64 (8 - (Int.tmod x1_3 8))) x7_3) = j_ := ⟨_, rfl⟩
             replace H : (if 0 ≤ (wrap64 (x7_3 - (ji17))) then (if 0 ≤ (wrap64 (8 - (ji17))) then (if 0 ≤ (wrap64 ((y101.length : Int) - 1)) then (if (wrap64 ((y101.length : Int) - 1)) < (y101.length : Int) then (if 0 ≤ (wrap64 ((wrap64 (8 - (Int.tmod x1_3 8))) - (ji17))) then (bits_Bits_Put.l0 k3 (y101.set ((wrap64 ((y101.length : Int) - 1)) : Int).toNat (Go.bits .or .u8 (rd y101 (wrap64 ((y101.length : Int) - 1))) (shl .u8 (Go.bits .and .u8 ((shr .u64 a2 (wrap64 (x7_3 - (ji17)))) % 256) (shr .u8 255 (wrap64 (8 - (ji17))))) (wrap64 ((wrap64 (8 - (Int.tmod x1_3 8))) - (ji17)))))) (wrap64 (x1_3 + (ji17))) a2 (wrap64 (x7_3 - (ji17)))) else (none)) else (none)) else (none)) else (none)) else (none)) = some (r1, r2, r3) := by first | (rw [hji17] at H; exact H) | (simp only [hji17] at H ⊢; exact H)
             have hji17_ : (if x7_3 < (wrap64 (8 - (Int.tmod x1_3 8))) then x7_3 else (wrap64 (8 - (Int.tmod x1_3 8)))) = ji17 := hji17
             obtain ⟨ji18, hji18⟩ : ∃ j_ : Int, (wrap64 (x7_3 - (ji17))) = j_ := ⟨_, rfl⟩
             replace H : (if 0 ≤ (ji18) then (if 0 ≤ (wrap64 (8 - (ji17))) then (if 0 ≤ (wrap64 ((y101.length : Int) - 1)) then (if (wrap64 ((y101.length : Int) - 1)) < (y101.length : Int) then (if 0 ≤ (wrap64 ((wrap64 (8 - (Int.tmod x1_3 8))) - (ji17))) then (bits_Bits_Put.l0 k3 (y101.set ((wrap64 ((y101.length : Int) - 1)) : Int).toNat (Go.bits .or .u8 (rd y101 (wrap64 ((y101.length : Int) - 1))) (shl .u8 (Go.bits .and .u8 ((shr .u64 a2 (ji18)) % 256) (shr .u8 255 (wrap64 (8 - (ji17))))) (wrap64 ((wrap64 (8 - (Int.tmod x1_3 8))) - (ji17)))))) (wrap64 (x1_3 + (ji17))) a2 ji18) else (none)) else (none)) else (none)) else (none)) else (none)) = some (r1, r2, r3) := by first | (rw [hji18] at H; exact H) | (simp only [hji18] at H ⊢; exact H)
             have hji18w : (IntKind.i64.wrap (x7_3 - (ji17))) = ji18 := (i64_w _).trans hji18
             by_cases c19 : 0 ≤ (ji18)
             ·rw [if_pos c19] at H
              have c19b0 := eq_true c19
              have c19b1 : decide (0 ≤ (ji18)) = true := decide_eq_true c19
              clear c19
              obtain ⟨ji20, hji20⟩ : ∃ j_ : Int, (shr .u64 a2 (ji18)) = j_ := ⟨_, rfl⟩
              replace H : (if 0 ≤ (wrap64 (8 - (ji17))) then (if 0 ≤ (wrap64 ((y101.length : Int) - 1)) then (if (wrap64 ((y101.length : Int) - 1)) < (y101.length : Int) then (if 0 ≤ (wrap64 ((wrap64 (8 - (Int.tmod x1_3 8))) - (ji17))) then (bits_Bits_Put.l0 k3 (y101.set ((wrap64 ((y101.length : Int) - 1)) : Int).toNat (Go.bits .or .u8 (rd y101 (wrap64 ((y101.length : Int) - 1))) (shl .u8 (Go.bits .and .u8 ((ji20) % 256) (shr .u8 255 (wrap64 (8 - (ji17))))) (wrap64 ((wrap64 (8 - (Int.tmod x1_3 8))) - (ji17)))))) (wrap64 (x1_3 + (ji17))) a2 ji18) else (none)) else (none)) else (none)) else (none)) = some (r1, r2, r3) := by first | (rw [hji20] at H; exact H) | (simp only [hji20] at H ⊢; exact H)
              have hji20_ : (a2 / 2 ^ min (ji18).toNat 64) = ji20 := hji20
              have hji20z : (ji18) ≤ 64 → (a2 / 2 ^ (ji18).toNat) = ji20 := shr_small hji20
              obtain ⟨ji21, hji21⟩ : ∃ j_ : Int, (wrap64 (8 - (ji17))) = j_ := ⟨_, rfl⟩
              replace H : (if 0 ≤ (ji21) then (if 0 ≤ (wrap64 ((y101.length : Int) - 1)) then (if (wrap64 ((y101.length : Int) - 1)) < (y101.length : Int) then (if 0 ≤ (wrap64 ((wrap64 (8 - (Int.tmod x1_3 8))) - (ji17))) then (bits_Bits_Put.l0 k3 (y101.set ((wrap64 ((y101.length : Int) - 1)) : Int).toNat (Go.bits .or .u8 (rd y101 (wrap64 ((y101.length : Int) - 1))) (shl .u8 (Go.bits .and .u8 ((ji20) % 256) (shr .u8 255 (ji21))) (wrap64 ((wrap64 (8 - (Int.tmod x1_3 8))) - (ji17)))))) (wrap64 (x1_3 + (ji17))) a2 ji18) else (none)) else (none)) else (none)) else (none)) = some (r1, r2, r3) := by first | (rw [hji21] at H; exact H) | (simp only [hji21] at H ⊢; exact H)
              have hji21w : (IntKind.i64.wrap (8 - (ji17))) = ji21 := (i64_w _).trans hji21
              by_cases c22 : 0 ≤ (ji21)
              ·rw [if_pos c22] at H
               have c22b0 := eq_true c22
               have c22b1 : decide (0 ≤ (ji21)) = true := decide_eq_true c22
               clear c22
               obtain ⟨ji23, hji23⟩ : ∃ j_ : Int, (shr .u8 255 (ji21)) = j_ := ⟨_, rfl⟩
               replace H : (if 0 ≤ (wrap64 ((y101.length : Int) - 1)) then (if (wrap64 ((y101.length : Int) - 1)) < (y101.length : Int) then (if 0 ≤ (wrap64 ((wrap64 (8 - (Int.tmod x1_3 8))) - (ji17))) then (bits_Bits_Put.l0 k3 (y101.set ((wrap64 ((y101.length : Int) - 1)) : Int).toNat (Go.bits .or .u8 (rd y101 (wrap64 ((y101.length : Int) - 1))) (shl .u8 (Go.bits .and .u8 ((ji20) % 256) (ji23)) (wrap64 ((wrap64 (8 - (Int.tmod x1_3 8))) - (ji17)))))) (wrap64 (x1_3 + (ji17))) a2 ji18) else (none)) else (none)) else (none)) = some (r1, r2, r3) := by first | (rw [hji23] at H; exact H) | (simp only [hji23] at H ⊢; exact H)
               have hji23_ : (255 / 2 ^ min (ji21).toNat 8) = ji23 := hji23
               have hji23z : (ji21) ≤ 8 → (255 / 2 ^ (ji21).toNat) = ji23 := shr_small hji23
               obtain ⟨ji24, hji24⟩ : ∃ j_ : Int, (wrap64 ((y101.length : Int) - 1)) = j_ := ⟨_, rfl⟩
               replace H : (if 0 ≤ (ji24) then (if (ji24) < (y101.length : Int) then (if 0 ≤ (wrap64 ((wrap64 (8 - (Int.tmod x1_3 8))) - (ji17))) then (bits_Bits_Put.l0 k3 (y101.set ((ji24) : Int).toNat (Go.bits .or .u8 (rd y101 (ji24)) (shl .u8 (Go.bits .and .u8 ((ji20) % 256) (ji23)) (wrap64 ((wrap64 (8 - (Int.tmod x1_3 8))) - (ji17)))))) (wrap64 (x1_3 + (ji17))) a2 ji18) else (none)) else (none)) else (none)) = some (r1, r2, r3) := by first | (rw [hji24] at H; exact H) | (simp only [hji24] at H ⊢; exact H)
               have hji24w : (IntKind.i64.wrap ((y101.length : Int) - 1)) = ji24 := (i64_w _).trans hji24
               by_cases c25 : 0 ≤ (ji24)
               ·rw [if_pos c25] at H
                have c25b0 : decide (0 ≤ (ji24)) = true := decide_eq_true c25
                clear c25
                by_cases c26 : (ji24) < (y101.length : Int)
                ·rw [if_pos c26] at H
                 have c26b0 : decide ((ji24) < (y101.length : Int)) = true := decide_eq_true c26
                 clear c26
                 obtain ⟨ji27, hji27⟩ : ∃ j_ : Int, (wrap64 ((wrap64 (8 - (Int.tmod x1_3 8))) - (ji17))) = j_ := ⟨_, rfl⟩
                 replace H : (if 0 ≤ (ji27) then (bits_Bits_Put.l0 k3 (y101.set ((ji24) : Int).toNat (Go.bits .or .u8 (rd y101 (ji24)) (shl .u8 (Go.bits .and .u8 ((ji20) % 256) (ji23)) (ji27)))) (wrap64 (x1_3 + (ji17))) a2 ji18) else (none)) = some (r1, r2, r3) := by first | (rw [hji27] at H; exact H) | (simp only [hji27] at H ⊢; exact H)
                 have hji27w : (IntKind.i64.wrap ((wrap64 (8 - (Int.tmod x1_3 8))) - (ji17))) = ji27 := (i64_w _).trans hji27
                 by_cases c28 : 0 ≤ (ji27)
                 ·rw [if_pos c28] at H
                  have c28b0 := eq_true c28
                  have c28b1 : decide (0 ≤ (ji27)) = true := decide_eq_true c28
                  clear c28
                  obtain ⟨ji29, hji29⟩ : ∃ j_ : Int, (shl .u8 (Go.bits .and .u8 ((ji20) % 256) (ji23)) (ji27)) = j_ := ⟨_, rfl⟩
                  replace H : (bits_Bits_Put.l0 k3 (y101.set ((ji24) : Int).toNat (Go.bits .or .u8 (rd y101 (ji24)) (ji29))) (wrap64 (x1_3 + (ji17))) a2 ji18) = some (r1, r2, r3) := by first | (rw [hji29] at H; exact H) | (simp only [hji29] at H ⊢; exact H)
                  have hji29_ : (IntKind.u8.wrap ((Go.bits .and .u8 ((ji20) % 256) (ji23)) * 2 ^ min (ji27).toNat 8)) = ji29 := hji29
                  have hji29z : (ji27) ≤ 8 → (IntKind.u8.wrap ((Go.bits .and .u8 ((ji20) % 256) (ji23)) * 2 ^ (ji27).toNat)) = ji29 := shl_small hji29
                  obtain ⟨y105, hy105⟩ : ∃ y_ : List Int, y_ = (y101.set ((ji24) : Int).toNat (Go.bits .or .u8 (rd y101 (ji24)) (ji29))) := ⟨_, rfl⟩
                  replace H : (bits_Bits_Put.l0 k3 y105 (wrap64 (x1_3 + (ji17))) a2 ji18) = some (r1, r2, r3) := by first | (rw [hy105]; with_reducible exact H) | (have H2_ := (Option.bind_some _ _).symm.trans H; rw [hy105]; with_reducible exact H2_) | (have H2_ := (Option.bind_some _ _).symm.trans H; with_reducible exact H2_) | with_reducible exact H | (rw [hy105]; exact H) | exact H
                  have Ny105 := Aside0.mk hy105
                  clear hy105
                  have H' := Aside0.mk H
                  clear H
                  try go_wp2_with (first | ((with_reducible refine gate_builtin (b := .append) (xs := #[.tmp 53, .tmp 54]) rfl ?_); at_builtin; refine Kd.R_append (Kd.int .u8) (w0 := w0) w0.heap.size rfl (.tmp 53) (.tmp 54) 24 5 (.int .u8 0) 1 rfl Try.underlying24 info5 rfl (by decide) (by omega) u0 x0_3 0 [.int .u8 0] (fun k_ => k_ ≠ g ∧ (some k_ = u9000_.ownBlock ∨ w.heap.size ≤ k_)) (fun _ => False) rfl rfl ?aP (fun _ hk => hk.elim) ?aF ?aO ?aB ?aS ?aL ?_; (case aP => exact rfl); (case aB => exact (by repeat (first | exact HB.out | apply below_alloc | apply pw_below_drewN | apply below_drew1))); (case aF => exact (fun k_ hk => ⟨Nat.ne_of_gt (Nat.lt_of_lt_of_le (blk_lt (show (World.heap _)[g]? = _ from by (with_reducible repeat (first | refine blk_drewN ?_ _ | refine blk_drew ?_ | refine blk_alloc ?_ _)); exact BK.out)) hk), .inr (Nat.le_trans (by first | exact HK.out.1 | exact (show Kept w _ (fun k_ => k_ = g ∨ some k_ = u9000_.ownBlock) from by repeat (first | (with_reducible first | exact HK.out | apply Kept.alloc | apply Kept.drewN | apply Kept.drew) | exact HK.out)).1) hk)⟩)); (case aO => exact (by (with_reducible repeat (first | apply Kd.R_alloc | apply Kd.R_drewN | apply Kd.R_drew)); exact HO_0.out)); (case aS => exact (below_size (by repeat (first | exact HB.out | apply below_alloc | apply pw_below_drewN | apply below_drew1)))); (case aL => have := LMc16.out; omega); intro v102 w31 ho hb hg hat; rw [← Ny101.out] at ho; obtain ⟨Av_, cv_, ev_⟩ := Kd.R_slice ho; subst ev_; have n0_ := Aside0.mk (hb); have n1_ := Aside0.mk (Kept.of_grown (S := (fun k_ => k_ = g ∨ some k_ = u9000_.ownBlock)) hg (by repeat (first | (with_reducible first | exact HK.out | apply Kept.alloc | apply Kept.drewN | apply Kept.drew) | exact HK.out)) (fun k_ e_ => (HO_0.out.1 k_ e_).2.imp .inr id)); have n2_ := Aside0.mk (ho); have n3_ := Aside0.mk (blk_grown (show (World.heap _)[g]? = some (Obj.cells #[u0, .int .i64 x1_3] 26 (0, 0)) from by (with_reducible repeat (first | refine blk_drewN ?_ _ | refine blk_drew ?_ | refine blk_alloc ?_ _)); exact BK.out) hg (Kd.R_away HO_0.out (fun _ hk => hk.1))); clear hc0 hf0 hc1; clear BK; have BK := n3_; have hc0 : World.cell? _ ⟨g, 0, none⟩ = some u0 := (blk_cell BK.out 0).trans rfl; have hf0 := blk_frozen BK.out 0; clear HB; clear HK; clear HO_0; have HB := n0_; have HK := n1_; have HO103 := n2_; clear n0_ n1_ n2_ n3_; clear ho hb hg hat))
                  have n0_ := Aside0.mk (Kd.R_far (p := ⟨g, 0, none⟩) HO103.out (fun _ hk => hk.1) (.slice Av_ y101.length cv_))
                  have n1_ := Aside0.mk (Kept.setCell (p := ⟨g, 0, none⟩) HK.out (.inl (.inl rfl)) (.slice Av_ y101.length cv_))
                  have n2_ := Aside0.mk (below_set (j := 0) (v := .slice Av_ y101.length cv_) HB.out HG0.out)
                  have n3_ := Aside0.mk (blk_put BK.out 0 (.slice Av_ y101.length cv_) (cs' := #[.slice Av_ y101.length cv_, .int .i64 x1_3]) rfl)
                  clear HO103 HK HB BK hc0 hf0
                  have HO103 := n0_
                  have HK := n1_
                  have HB := n2_
                  have BK := n3_
                  clear n0_ n1_ n2_ n3_
                  generalize (w31.setCell ⟨g, 0, none⟩ (.slice Av_ y101.length cv_)) = w31b at HO103 HK HB BK ⊢
                  have n0_ := Aside0.mk (Kd.R_drew HO103.out)
                  have n1_ := Aside0.mk (Kept.drew HK.out)
                  have n2_ := Aside0.mk (below_drew1 HB.out)
                  have n3_ := Aside0.mk (blk_drew BK.out)
                  clear BK
                  have BK := n3_
                  (try clear hc0 hf0)
                  (try clear hc1)
                  clear HO103
                  clear HK
                  clear HB
                  have HO103 := n0_
                  have HK := n1_
                  have HB := n2_
                  clear n0_ n1_ n2_ n3_
                  refine start_ (n := 11) (S := fun w' => True) (ds := []) #[false, false, false, false, false, false, false, false, false, false, false] (by kernel_rfl) rfl rfl trivial (fun hHeld => ?_); refine with_tabW bits_Bits_Put.tab15 bits_Bits_Put.bits15 (fun HT_ HW_ => ?_)
                  generalize w31b.drew = w32 at HO103 HK HB BK hHeld ⊢
                  refine pure_ (i := 0) (N := some 61) (v := ?_) (a' := ?_) #[true, false, false, false, false, false, false, false, false, false, false] rfl rfl (any_of HT_.out (by kernel_rfl)) (fun _ _ _ h => h) (Or.inl ⟨by rfl, ?_⟩) ?_ ?_
                  rotate_left
                  ·intro w'
                   go_simp
                   with_reducible rfl
                  rotate_left
                  ·simp only [Act.put, sA_, sB_, sC_, i64_w, i32_w]
                   rfl
                  refine pure_ (i := 1) (N := some 62) (v := ?_) (a' := ?_) #[true, true, false, false, false, false, false, false, false, false, false] rfl rfl (any_of HT_.out (by kernel_rfl)) (fun _ _ _ h => h) (Or.inl ⟨by rfl, ?_⟩) ?_ ?_
                  rotate_left
                  ·intro w'
                   go_simp
                   with_reducible rfl
                  rotate_left
                  ·simp only [Act.put, sA_, sB_, sC_, i64_w, i32_w]
                   rfl
                  refine pure_ (i := 2) (N := some 63) (v := ?_) (a' := ?_) #[true, true, true, false, false, false, false, false, false, false, false] rfl rfl (any_of HT_.out (by kernel_rfl)) (fun _ _ _ h => h) (Or.inl ⟨by rfl, ?_⟩) ?_ ?_
                  rotate_left
                  ·intro w'
                   go_simp
                   with_reducible rfl
                  rotate_left
                  ·simp only [Act.put, sA_, sB_, sC_, i64_w, i32_w]
                   rfl
                  refine pure_ (i := 3) (N := some 64) (v := ?_) (a' := ?_) #[true, true, true, true, false, false, false, false, false, false, false] rfl rfl (any_of HT_.out (by kernel_rfl)) (fun _ _ _ h => h) (Or.inl ⟨by rfl, ?_⟩) ?_ ?_
                  rotate_left
                  ·intro w'
                   go_simp
                   with_reducible rfl
                  rotate_left
                  ·simp only [Act.put, sA_, sB_, sC_, i64_w, i32_w]
                   rfl
                  refine pure_ (i := 4) (N := some 65) (v := ?_) (a' := ?_) #[true, true, true, true, true, false, false, false, false, false, false] rfl rfl (any_of HT_.out (by kernel_rfl)) (fun _ _ _ h => h) (Or.inl ⟨by rfl, ?_⟩) ?_ ?_
                  rotate_left
                  ·intro w'
                   go_simp
                   with_reducible rfl
                  rotate_left
                  ·simp only [Act.put, sA_, sB_, sC_, i64_w, i32_w]
                   rfl
                  refine pure_ (i := 5) (N := some 66) (v := ?_) (a' := ?_) #[true, true, true, true, true, true, false, false, false, false, false] rfl rfl (any_of HT_.out (by kernel_rfl)) (fun _ _ _ h => h) (Or.inl ⟨by rfl, ?_⟩) ?_ ?_
                  rotate_left
                  ·intro w'
                   go_simp
                   with_reducible rfl
                  rotate_left
                  ·simp only [Act.put, sA_, sB_, sC_, i64_w, i32_w]
                   rfl
                  refine pure_ (i := 6) (N := some 67) (v := ?_) (a' := ?_) #[true, true, true, true, true, true, true, false, false, false, false] rfl rfl (any_of HT_.out (by kernel_rfl)) (fun _ _ _ h => h) (Or.inl ⟨by rfl, ?_⟩) ?_ ?_
                  rotate_left
                  ·intro w'
                   go_simp
                   with_reducible rfl
                  rotate_left
                  ·simp only [Act.put, sA_, sB_, sC_, i64_w, i32_w]
                   rfl
                  refine pure_ (i := 7) (N := some 68) (v := ?_) (a' := ?_) #[true, true, true, true, true, true, true, true, false, false, false] rfl rfl (any_of HT_.out (by kernel_rfl)) (fun _ _ _ h => h) (Or.inl ⟨by rfl, ?_⟩) ?_ ?_
                  rotate_left
                  ·intro w'
                   go_simp
                   with_reducible rfl
                  rotate_left
                  ·simp only [Act.put, sA_, sB_, sC_, i64_w, i32_w]
                   rfl
                  refine pure_ (i := 8) (N := some 69) (v := ?_) (a' := ?_) #[true, true, true, true, true, true, true, true, true, false, false] rfl rfl (any_of HT_.out (by kernel_rfl)) (fun _ _ _ h => h) (Or.inl ⟨by rfl, ?_⟩) ?_ ?_
                  rotate_left
                  ·intro w'
                   go_simp
                   with_reducible rfl
                  rotate_left
                  ·simp only [Act.put, sA_, sB_, sC_, i64_w, i32_w]
                   rfl
                  refine pure_ (i := 9) (N := some 70) (v := ?_) (a' := ?_) #[true, true, true, true, true, true, true, true, true, true, false] rfl rfl (any_of HT_.out (by kernel_rfl)) (fun _ _ _ h => h) (Or.inl ⟨by rfl, ?_⟩) ?_ ?_
                  rotate_left
                  ·intro w'
                   go_simp
                   with_reducible rfl
                  rotate_left
                  ·simp only [Act.put, sA_, sB_, sC_, i64_w, i32_w]
                   rfl
                  refine pure_ (i := 10) (N := some 10) (v := ?_) (a' := ?_) #[true, true, true, true, true, true, true, true, true, true, true] rfl rfl (any_of HT_.out (by kernel_rfl)) (fun _ _ _ h => h) (Or.inl ⟨by rfl, ?_⟩) ?_ ?_
                  rotate_left
                  ·intro w'
                   go_simp
                   with_reducible rfl
                  rotate_left
                  ·simp only [Act.put, sA_, sB_, sC_, i64_w, i32_w]
                   rfl
                  refine done_ (done_of HT_.out (by kernel_rfl)) ?_
                  try go_wp2
                  have n0_ := Aside0.mk (Kd.R_drew HO103.out)
                  have n1_ := Aside0.mk (Kept.drew HK.out)
                  have n2_ := Aside0.mk (below_drew1 HB.out)
                  have n3_ := Aside0.mk (blk_drew BK.out)
                  clear BK
                  have BK := n3_
                  (try clear hc0 hf0)
                  (try clear hc1)
                  clear HO103
                  clear HK
                  clear HB
                  have HO103 := n0_
                  have HK := n1_
                  have HB := n2_
                  clear n0_ n1_ n2_ n3_
                  obtain ⟨Ao34, co34, eo34⟩ := Kd.R_slice HO103.out
                  (first | subst eo34 | (injection eo34 with f1_ f2_ f3_; have f4_ := f1_.symm; have f5_ := f3_.symm; clear f1_ f2_ f3_; subst f4_; subst f5_))
                  have p104 : 0 ≤ ((ji24) : Int) := of_decide_eq_true (by first | (with_reducible assumption) | assumption)
                  have q104 : (ji24) < (y101.length : Int) := of_decide_eq_true (by first | (with_reducible assumption) | assumption)
                  obtain ⟨ad104, e104, hx104_0⟩ := Kd.at_int (Kd.R_reads' HO103.out).2.2 (ji24) p104 q104
                  cases e104
                  replace p104 := eq_true p104
                  replace q104 := eq_true q104
                  have p30 : 0 ≤ ((ji24) : Int) := of_decide_eq_true (by first | (with_reducible assumption) | assumption)
                  have q30 : ((ji24) : Int) < ((y101.length : Int) : Int) := of_decide_eq_true (by first | (with_reducible assumption) | assumption)
                  obtain ⟨go30, co30, eo30, gb30, gl30, cl30, HG30⟩ := Kd.R_form HO103.out (by omega)
                  (first | cases eo30 | (injection eo30 with ea_ en_ ec_; (first | subst ea_ | (injection ea_ with ea_; subst ea_)); subst ec_; clear en_))
                  have GB30 := Aside0.mk gb30
                  have GG30 := Aside0.mk HG30
                  clear gb30 gl30 HG30
                  have HMgo30 := Aside0.mk (show (go30 = g ∨ some go30 = u9000_.ownBlock) ∨ w.heap.size ≤ go30 from (HO103.out.1 _ rfl).2.imp .inr id)
                  (first | simp only [add_plain] at hx104_0 | skip)
                  obtain ⟨hx30_0, hf30_0⟩ := Kd.R_celln 0 HO103.out ((ji24) : Int) p30 q30
                  replace p30 := eq_true p30
                  replace q30 := eq_true q30
                  have HP35 := Kd.R_putn HO103.out ((ji24) : Int) (Go.bits .or .u8 (rd y101 (ji24)) (ji29))
                  rw [← Ny105.out] at HP35
                  have HQ35 := Aside0.mk HP35
                  clear HP35
                  refine start_ (n := 20) (S := fun w' => w'.cell? ⟨g, 0, none⟩ = some (.slice (some ⟨go30, 0, none⟩) y101.length co34) ∧ w'.cell? ⟨go30, ((ji24)).toNat, none⟩ = some (.int .u8 (rd y101 (ji24)))) (ds := [19]) #[false, false, false, false, false, false, false, false, false, false, false, false, false, false, false, false, false, false, false, false] (by kernel_rfl) rfl rfl ⟨(blk_cell BK.out 0).trans rfl, hx104_0⟩ (fun hHeld => ?_); refine with_tabW bits_Bits_Put.tab16 bits_Bits_Put.bits16 (fun HT_ HW_ => ?_)
                  generalize w32.drew = w33 at HO103 HK HB BK GG30 HQ35 hf30_0 hx104_0 hx30_0 hHeld ⊢
                  refine pure_ (i := 0) (N := some 71) (v := ?_) (a' := ?_) #[true, false, false, false, false, false, false, false, false, false, false, false, false, false, false, false, false, false, false, false] rfl rfl (any_of HT_.out (by kernel_rfl)) (fun _ _ _ h => h) (Or.inl ⟨by rfl, ?_⟩) ?_ ?_
                  rotate_left
                  ·intro w'
                   go_simp
                   with_reducible rfl
                  rotate_left
                  ·simp only [Act.put, sA_, sB_, sC_, i64_w, i32_w]
                   rfl
                  refine pure_ (i := 1) (N := some 72) (v := ?_) (a' := ?_) #[true, true, false, false, false, false, false, false, false, false, false, false, false, false, false, false, false, false, false, false] rfl rfl (any_of HT_.out (by kernel_rfl)) (fun _ _ _ h => h) (Or.inl ⟨by rfl, ?_⟩) ?_ ?_
                  rotate_left
                  ·intro w'
                   go_simp
                   with_reducible rfl
                  rotate_left
                  ·simp only [Act.put, sA_, sB_, sC_, i64_w, i32_w]
                   rfl
                  refine pure_ (i := 2) (N := some 73) (v := ?_) (a' := ?_) #[true, true, true, false, false, false, false, false, false, false, false, false, false, false, false, false, false, false, false, false] rfl rfl (any_of HT_.out (by kernel_rfl)) (fun _ _ _ h => h) (Or.inl ⟨by rfl, ?_⟩) ?_ ?_
                  rotate_left
                  ·intro w'
                   go_simp
                   with_reducible rfl
                  rotate_left
                  ·simp only [Act.put, sA_, sB_, sC_, i64_w, i32_w]
                   rfl
                  refine pure_ (i := 4) (N := some 75) (v := ?_) (a' := ?_) #[true, true, true, false, true, false, false, false, false, false, false, false, false, false, false, false, false, false, false, false] rfl rfl (any_of HT_.out (by kernel_rfl)) (fun _ _ _ h => h) (Or.inl ⟨by rfl, ?_⟩) ?_ ?_
                  rotate_left
                  ·intro w'
                   go_simp
                   with_reducible rfl
                  rotate_left
                  ·simp only [Act.put, sA_, sB_, sC_, i64_w, i32_w]
                   rfl
                  refine pure_ (i := 5) (N := some 76) (v := ?_) (a' := ?_) #[true, true, true, false, true, true, false, false, false, false, false, false, false, false, false, false, false, false, false, false] rfl rfl (any_of HT_.out (by kernel_rfl)) (fun _ _ _ h => h) (Or.inl ⟨by rfl, ?_⟩) ?_ ?_
                  rotate_left
                  ·intro w'
                   go_simp
                   with_reducible rfl
                  rotate_left
                  ·simp only [Act.put, sA_, sB_, sC_, i64_w, i32_w]
                   rfl
                  refine pure_ (i := 6) (N := some 77) (v := ?_) (a' := ?_) #[true, true, true, false, true, true, true, false, false, false, false, false, false, false, false, false, false, false, false, false] rfl rfl (any_of HT_.out (by kernel_rfl)) (fun _ _ _ h => h) (Or.inl ⟨by rfl, ?_⟩) ?_ ?_
                  rotate_left
                  ·intro w'
                   go_simp
                   with_reducible rfl
                  rotate_left
                  ·simp only [Act.put, sA_, sB_, sC_, i64_w, i32_w]
                   rfl
                  refine pure_ (i := 12) (N := some 83) (v := ?_) (a' := ?_) #[true, true, true, false, true, true, true, false, false, false, false, false, true, false, false, false, false, false, false, false] rfl rfl (any_of HT_.out (by kernel_rfl)) (fun _ _ _ h => h) (Or.inl ⟨by rfl, ?_⟩) ?_ ?_
                  rotate_left
                  ·intro w'
                   go_simp
                   with_reducible rfl
                  rotate_left
                  ·simp only [Act.put, sA_, sB_, sC_, i64_w, i32_w]
                   rfl
                  refine pure_ (i := 13) (N := some 84) (v := ?_) (a' := ?_) #[true, true, true, false, true, true, true, false, false, false, false, false, true, true, false, false, false, false, false, false] rfl rfl (any_of HT_.out (by kernel_rfl)) (fun _ _ _ h => h) (Or.inl ⟨by rfl, ?_⟩) ?_ ?_
                  rotate_left
                  ·intro w'
                   go_simp
                   with_reducible rfl
                  rotate_left
                  ·simp only [Act.put, sA_, sB_, sC_, i64_w, i32_w]
                   rfl
                  refine pure_ (i := 14) (N := some 85) (v := ?_) (a' := ?_) #[true, true, true, false, true, true, true, false, false, false, false, false, true, true, true, false, false, false, false, false] rfl rfl (any_of HT_.out (by kernel_rfl)) (fun _ _ _ h => h) (Or.inl ⟨by rfl, ?_⟩) ?_ ?_
                  rotate_left
                  ·intro w'
                   go_simp
                   with_reducible rfl
                  rotate_left
                  ·simp only [Act.put, sA_, sB_, sC_, i64_w, i32_w]
                   rfl
                  refine pure_ (i := 15) (N := some 86) (v := ?_) (a' := ?_) #[true, true, true, false, true, true, true, false, false, false, false, false, true, true, true, true, false, false, false, false] rfl rfl (any_of HT_.out (by kernel_rfl)) (fun _ _ _ h => h) (Or.inl ⟨by rfl, ?_⟩) ?_ ?_
                  rotate_left
                  ·intro w'
                   go_simp
                   with_reducible rfl
                  rotate_left
                  ·simp only [Act.put, sA_, sB_, sC_, i64_w, i32_w]
                   rfl
                  refine pure_ (i := 16) (N := some 87) (v := ?_) (a' := ?_) #[true, true, true, false, true, true, true, false, false, false, false, false, true, true, true, true, true, false, false, false] rfl rfl (any_of HT_.out (by kernel_rfl)) (fun _ _ _ h => h) (Or.inl ⟨by rfl, ?_⟩) ?_ ?_
                  rotate_left
                  ·intro w'
                   go_simp
                   with_reducible rfl
                  rotate_left
                  ·simp only [Act.put, sA_, sB_, sC_, i64_w, i32_w]
                   rfl
                  refine take_ (i := 3) (N := some 74) (v := ?_) (a' := ?_) #[true, true, true, true, true, true, true, false, false, false, false, false, true, true, true, true, true, false, false, false] rfl rfl (take_ofW HT_.out HW_.out (by kernel_rfl)) (fun _ _ _ h => h) (Or.inl ⟨by rfl, ?_⟩) hHeld ?_ ?_
                  rotate_left
                  ·rintro w' ⟨s0, s1⟩
                   go_simp
                   with_reducible rfl
                  rotate_left
                  ·simp only [Act.put, sA_, sB_, sC_, i64_w, i32_w]
                   rfl
                  refine take_ (i := 7) (N := some 78) (v := ?_) (a' := ?_) #[true, true, true, true, true, true, true, true, false, false, false, false, true, true, true, true, true, false, false, false] rfl rfl (take_ofW HT_.out HW_.out (by kernel_rfl)) (fun _ _ _ h => h) (Or.inl ⟨by rfl, ?_⟩) hHeld ?_ ?_
                  rotate_left
                  ·rintro w' ⟨s0, s1⟩
                   go_simp
                   with_reducible rfl
                  rotate_left
                  ·simp only [Act.put, sA_, sB_, sC_, i64_w, i32_w]
                   rfl
                  refine pure_ (i := 8) (N := some 79) (v := ?_) (a' := ?_) #[true, true, true, true, true, true, true, true, true, false, false, false, true, true, true, true, true, false, false, false] rfl rfl (any_of HT_.out (by kernel_rfl)) (fun _ _ _ h => h) (Or.inl ⟨by rfl, ?_⟩) ?_ ?_
                  rotate_left
                  ·intro w'
                   go_simp
                   with_reducible rfl
                  rotate_left
                  ·simp only [Act.put, sA_, sB_, sC_, i64_w, i32_w]
                   rfl
                  refine pure_ (i := 9) (N := some 80) (v := ?_) (a' := ?_) #[true, true, true, true, true, true, true, true, true, true, false, false, true, true, true, true, true, false, false, false] rfl rfl (any_of HT_.out (by kernel_rfl)) (fun _ _ _ h => h) (Or.inl ⟨by rfl, ?_⟩) ?_ ?_
                  rotate_left
                  ·intro w'
                   go_simp
                   with_reducible rfl
                  rotate_left
                  ·simp only [Act.put, sA_, sB_, sC_, i64_w, i32_w]
                   rfl
                  refine pure_ (i := 10) (N := some 81) (v := ?_) (a' := ?_) #[true, true, true, true, true, true, true, true, true, true, true, false, true, true, true, true, true, false, false, false] rfl rfl (any_of HT_.out (by kernel_rfl)) (fun _ _ _ h => h) (Or.inl ⟨by rfl, ?_⟩) ?_ ?_
                  rotate_left
                  ·intro w'
                   go_simp
                   with_reducible rfl
                  rotate_left
                  ·simp only [Act.put, sA_, sB_, sC_, i64_w, i32_w]
                   rfl
                  refine take_ (i := 11) (N := some 82) (v := ?_) (a' := ?_) #[true, true, true, true, true, true, true, true, true, true, true, true, true, true, true, true, true, false, false, false] rfl rfl (take_ofW HT_.out HW_.out (by kernel_rfl)) (fun _ _ _ h => h) (Or.inl ⟨by rfl, ?_⟩) hHeld ?_ ?_
                  rotate_left
                  ·rintro w' ⟨s0, s1⟩
                   go_simp
                   with_reducible rfl
                  rotate_left
                  ·simp only [Act.put, sA_, sB_, sC_, i64_w, i32_w]
                   rfl
                  refine pure_ (i := 17) (N := some 88) (v := ?_) (a' := ?_) #[true, true, true, true, true, true, true, true, true, true, true, true, true, true, true, true, true, true, false, false] rfl rfl (any_of HT_.out (by kernel_rfl)) (fun _ _ _ h => h) (Or.inl ⟨by rfl, ?_⟩) ?_ ?_
                  rotate_left
                  ·intro w'
                   go_simp
                   with_reducible rfl
                  rotate_left
                  ·simp only [Act.put, sA_, sB_, sC_, i64_w, i32_w]
                   rfl
                  refine pure_ (i := 18) (N := some 89) (v := ?_) (a' := ?_) #[true, true, true, true, true, true, true, true, true, true, true, true, true, true, true, true, true, true, true, false] rfl rfl (any_of HT_.out (by kernel_rfl)) (fun _ _ _ h => h) (Or.inl ⟨by rfl, ?_⟩) ?_ ?_
                  rotate_left
                  ·intro w'
                   go_simp
                   with_reducible rfl
                  rotate_left
                  ·simp only [Act.put, sA_, sB_, sC_, i64_w, i32_w]
                   rfl
                  obtain ⟨wz, hwz⟩ : ∃ z_, z_ = (w33.setCell ⟨go30, ((ji24) : Int).toNat, none⟩ (.int .u8 (Go.bits .or .u8 (rd y101 (ji24)) (ji29)))) := ⟨_, rfl⟩
                  have HR2 := Aside0.mk (show Kd.R (Kd.int .u8) 5 wz w0.heap.size (fun k_ => k_ ≠ g ∧ (some k_ = u9000_.ownBlock ∨ w.heap.size ≤ k_)) (.slice (some ⟨go30, 0, none⟩) y101.length co34) y105 from by rw [hwz]; exact HQ35.out)
                  have BK2 := Aside0.mk (show wz.heap[g]? = some (.cells #[.slice (some ⟨go30, 0, none⟩) y101.length co34, .int .i64 x1_3] 26 (0, 0)) from by rw [hwz]; exact blk_far BK.out (p := ⟨go30, ((ji24) : Int).toNat, none⟩) (fun e_ => (HO103.out.1 _ rfl).1 e_.symm) _)
                  have HK2 := Aside0.mk (show Kept w wz (fun k_ => k_ = g ∨ some k_ = u9000_.ownBlock) from by rw [hwz]; exact Kept.setCell HK.out HMgo30.out _)
                  have HB2 := Aside0.mk (show Below w0.heap.size w0 wz from by rw [hwz]; exact below_set HB.out GB30.out)
                  have HZ := Aside0.mk hwz
                  clear hwz
                  refine last_ (i := 19) (N := none) #[true, true, true, true, true, true, true, true, true, true, true, true, true, true, true, true, true, true, true, true] rfl rfl (one_of HT_.out (by kernel_rfl)) (by decide) (fun K hK => ?_)
                  refine skip_ (w1 := wz) (by rfl) rfl ?_ ?_
                  ·rw [HZ.out]
                   go_simp
                   first | rfl | (simp only [← hji29]; rfl) | (rw [← hji29]; rfl)
                  refine hK.out _ _ ?_
                  clear hK K
                  refine done_ (done_of HT_.out (by kernel_rfl)) ?_
                  have hc1 : World.cell? wz ⟨g, 1, none⟩ = some (Value.int .i64 x1_3) := (blk_cell BK2.out 1).trans rfl
                  have hf1 := blk_frozen BK2.out 1
                  go_wp2
                  go_roundg k3
                  case measure => have := HJ4.out; have := HJ7.out; have := HK3.out; omega
                  case rel => exact ⟨_, (y105), (wrap64 (x1_3 + (ji17))), (ji18), (by first | rfl | (simp only [← hji18] <;> (first | rfl | simp)) | (simp [*]; done)), (by first | exact H' | (simp only [hji17, hji18, hji20, hji21, hji23, hji24, hji27, hji29]; exact H')), ⟨by have := HJ4.out; have := HJ7.out; have := HK3.out; omega⟩, ⟨Kd.R_far (p := ⟨g, 1, none⟩) HR2.out (fun _ hk => hk.1) _⟩, ⟨blk_put BK2.out 1 _ rfl⟩, ⟨Kept.setCell HK2.out (.inl (.inl rfl)) _⟩, ⟨below_set HB2.out HG0.out⟩⟩
                 ·rw [if_neg c28] at H
                  exact absurd H (by simp)
                ·rw [if_neg c26] at H
                 exact absurd H (by simp)
               ·rw [if_neg c25] at H
                exact absurd H (by simp)
              ·rw [if_neg c22] at H
               exact absurd H (by simp)
             ·rw [if_neg c19] at H
              exact absurd H (by simp)
            ·rw [if_neg c16] at H
             exact absurd H (by simp)
           ·rw [if_neg c15] at H
            have c15b0 : ((wrap64 (8 - (Int.tmod x1_3 8))) == 8) = false := beq_eq_false_iff_ne.mpr c15
            have c15b1 : ((wrap64 (8 - (Int.tmod x1_3 8))) != 8) = true := bne_iff_ne.mpr c15
            obtain ⟨ji36, hji36⟩ : ∃ j_ : Int, (mn (wrap64 (8 - (Int.tmod x1_3 8))) x7_3) = j_ := ⟨_, rfl⟩
            replace H : (if 0 ≤ (wrap64 (x7_3 - (ji36))) then (if 0 ≤ (wrap64 (8 - (ji36))) then (if 0 ≤ (wrap64 ((x0_3.length : Int) - 1)) then (if (wrap64 ((x0_3.length : Int) - 1)) < (x0_3.length : Int) then (if 0 ≤ (wrap64 ((wrap64 (8 - (Int.tmod x1_3 8))) - (ji36))) then (bits_Bits_Put.l0 k3 (x0_3.set ((wrap64 ((x0_3.length : Int) - 1)) : Int).toNat (Go.bits .or .u8 (rd x0_3 (wrap64 ((x0_3.length : Int) - 1))) (shl .u8 (Go.bits .and .u8 ((shr .u64 a2 (wrap64 (x7_3 - (ji36)))) % 256) (shr .u8 255 (wrap64 (8 - (ji36))))) (wrap64 ((wrap64 (8 - (Int.tmod x1_3 8))) - (ji36)))))) (wrap64 (x1_3 + (ji36))) a2 (wrap64 (x7_3 - (ji36)))) else (none)) else (none)) else (none)) else (none)) else (none)) = some (r1, r2, r3) := by first | (rw [hji36] at H; exact H) | (simp only [hji36] at H ⊢; exact H)
            have hji36_ : (if x7_3 < (wrap64 (8 - (Int.tmod x1_3 8))) then x7_3 else (wrap64 (8 - (Int.tmod x1_3 8)))) = ji36 := hji36
            obtain ⟨ji37, hji37⟩ : ∃ j_ : Int, (wrap64 (x7_3 - (ji36))) = j_ := ⟨_, rfl⟩
            replace H : (if 0 ≤ (ji37) then (if 0 ≤ (wrap64 (8 - (ji36))) then (if 0 ≤ (wrap64 ((x0_3.length : Int) - 1)) then (if (wrap64 ((x0_3.length : Int) - 1)) < (x0_3.length : Int) then (if 0 ≤ (wrap64 ((wrap64 (8 - (Int.tmod x1_3 8))) - (ji36))) then (bits_Bits_Put.l0 k3 (x0_3.set ((wrap64 ((x0_3.length : Int) - 1)) : Int).toNat (Go.bits .or .u8 (rd x0_3 (wrap64 ((x0_3.length : Int) - 1))) (shl .u8 (Go.bits .and .u8 ((shr .u64 a2 (ji37)) % 256) (shr .u8 255 (wrap64 (8 - (ji36))))) (wrap64 ((wrap64 (8 - (Int.tmod x1_3 8))) - (ji36)))))) (wrap64 (x1_3 + (ji36))) a2 ji37) else (none)) else (none)) else (none)) else (none)) else (none)) = some (r1, r2, r3) := by first | (rw [hji37] at H; exact H) | (simp only [hji37] at H ⊢; exact H)
            have hji37w : (IntKind.i64.wrap (x7_3 - (ji36))) = ji37 := (i64_w _).trans hji37
            by_cases c38 : 0 ≤ (ji37)
            ·rw [if_pos c38] at H
             have c38b0 := eq_true c38
             have c38b1 : decide (0 ≤ (ji37)) = true := decide_eq_true c38
             clear c38
             obtain ⟨ji39, hji39⟩ : ∃ j_ : Int, (shr .u64 a2 (ji37)) = j_ := ⟨_, rfl⟩
             replace H : (if 0 ≤ (wrap64 (8 - (ji36))) then (if 0 ≤ (wrap64 ((x0_3.length : Int) - 1)) then (if (wrap64 ((x0_3.length : Int) - 1)) < (x0_3.length : Int) then (if 0 ≤ (wrap64 ((wrap64 (8 - (Int.tmod x1_3 8))) - (ji36))) then (bits_Bits_Put.l0 k3 (x0_3.set ((wrap64 ((x0_3.length : Int) - 1)) : Int).toNat (Go.bits .or .u8 (rd x0_3 (wrap64 ((x0_3.length : Int) - 1))) (shl .u8 (Go.bits .and .u8 ((ji39) % 256) (shr .u8 255 (wrap64 (8 - (ji36))))) (wrap64 ((wrap64 (8 - (Int.tmod x1_3 8))) - (ji36)))))) (wrap64 (x1_3 + (ji36))) a2 ji37) else (none)) else (none)) else (none)) else (none)) = some (r1, r2, r3) := by first | (rw [hji39] at H; exact H) | (simp only [hji39] at H ⊢; exact H)
             have hji39_ : (a2 / 2 ^ min (ji37).toNat 64) = ji39 := hji39
             have hji39z : (ji37) ≤ 64 → (a2 / 2 ^ (ji37).toNat) = ji39 := shr_small hji39
             obtain ⟨ji40, hji40⟩ : ∃ j_ : Int, (wrap64 (8 - (ji36))) = j_ := ⟨_, rfl⟩
             replace H : (if 0 ≤ (ji40) then (if 0 ≤ (wrap64 ((x0_3.length : Int) - 1)) then (if (wrap64 ((x0_3.length : Int) - 1)) < (x0_3.length : Int) then (if 0 ≤ (wrap64 ((wrap64 (8 - (Int.tmod x1_3 8))) - (ji36))) then (bits_Bits_Put.l0 k3 (x0_3.set ((wrap64 ((x0_3.length : Int) - 1)) : Int).toNat (Go.bits .or .u8 (rd x0_3 (wrap64 ((x0_3.length : Int) - 1))) (shl .u8 (Go.bits .and .u8 ((ji39) % 256) (shr .u8 255 (ji40))) (wrap64 ((wrap64 (8 - (Int.tmod x1_3 8))) - (ji36)))))) (wrap64 (x1_3 + (ji36))) a2 ji37) else (none)) else (none)) else (none)) else (none)) = some (r1, r2, r3) := by first | (rw [hji40] at H; exact H) | (simp only [hji40] at H ⊢; exact H)
             have hji40w : (IntKind.i64.wrap (8 - (ji36))) = ji40 := (i64_w _).trans hji40
             by_cases c41 : 0 ≤ (ji40)
             ·rw [if_pos c41] at H
              have c41b0 := eq_true c41
              have c41b1 : decide (0 ≤ (ji40)) = true := decide_eq_true c41
              clear c41
              obtain ⟨ji42, hji42⟩ : ∃ j_ : Int, (shr .u8 255 (ji40)) = j_ := ⟨_, rfl⟩
              replace H : (if 0 ≤ (wrap64 ((x0_3.length : Int) - 1)) then (if (wrap64 ((x0_3.length : Int) - 1)) < (x0_3.length : Int) then (if 0 ≤ (wrap64 ((wrap64 (8 - (Int.tmod x1_3 8))) - (ji36))) then (bits_Bits_Put.l0 k3 (x0_3.set ((wrap64 ((x0_3.length : Int) - 1)) : Int).toNat (Go.bits .or .u8 (rd x0_3 (wrap64 ((x0_3.length : Int) - 1))) (shl .u8 (Go.bits .and .u8 ((ji39) % 256) (ji42)) (wrap64 ((wrap64 (8 - (Int.tmod x1_3 8))) - (ji36)))))) (wrap64 (x1_3 + (ji36))) a2 ji37) else (none)) else (none)) else (none)) = some (r1, r2, r3) := by first | (rw [hji42] at H; exact H) | (simp only [hji42] at H ⊢; exact H)
              have hji42_ : (255 / 2 ^ min (ji40).toNat 8) = ji42 := hji42
              have hji42z : (ji40) ≤ 8 → (255 / 2 ^ (ji40).toNat) = ji42 := shr_small hji42
              obtain ⟨ji43, hji43⟩ : ∃ j_ : Int, (wrap64 ((x0_3.length : Int) - 1)) = j_ := ⟨_, rfl⟩
              replace H : (if 0 ≤ (ji43) then (if (ji43) < (x0_3.length : Int) then (if 0 ≤ (wrap64 ((wrap64 (8 - (Int.tmod x1_3 8))) - (ji36))) then (bits_Bits_Put.l0 k3 (x0_3.set ((ji43) : Int).toNat (Go.bits .or .u8 (rd x0_3 (ji43)) (shl .u8 (Go.bits .and .u8 ((ji39) % 256) (ji42)) (wrap64 ((wrap64 (8 - (Int.tmod x1_3 8))) - (ji36)))))) (wrap64 (x1_3 + (ji36))) a2 ji37) else (none)) else (none)) else (none)) = some (r1, r2, r3) := by first | (rw [hji43] at H; exact H) | (simp only [hji43] at H ⊢; exact H)
              have hji43w : (IntKind.i64.wrap ((x0_3.length : Int) - 1)) = ji43 := (i64_w _).trans hji43
              by_cases c44 : 0 ≤ (ji43)
              ·rw [if_pos c44] at H
               have c44b0 : decide (0 ≤ (ji43)) = true := decide_eq_true c44
               clear c44
               by_cases c45 : (ji43) < (x0_3.length : Int)
               ·rw [if_pos c45] at H
                have c45b0 : decide ((ji43) < (x0_3.length : Int)) = true := decide_eq_true c45
                clear c45
                obtain ⟨ji46, hji46⟩ : ∃ j_ : Int, (wrap64 ((wrap64 (8 - (Int.tmod x1_3 8))) - (ji36))) = j_ := ⟨_, rfl⟩
                replace H : (if 0 ≤ (ji46) then (bits_Bits_Put.l0 k3 (x0_3.set ((ji43) : Int).toNat (Go.bits .or .u8 (rd x0_3 (ji43)) (shl .u8 (Go.bits .and .u8 ((ji39) % 256) (ji42)) (ji46)))) (wrap64 (x1_3 + (ji36))) a2 ji37) else (none)) = some (r1, r2, r3) := by first | (rw [hji46] at H; exact H) | (simp only [hji46] at H ⊢; exact H)
                have hji46w : (IntKind.i64.wrap ((wrap64 (8 - (Int.tmod x1_3 8))) - (ji36))) = ji46 := (i64_w _).trans hji46
                by_cases c47 : 0 ≤ (ji46)
                ·rw [if_pos c47] at H
                 have c47b0 := eq_true c47
                 have c47b1 : decide (0 ≤ (ji46)) = true := decide_eq_true c47
                 clear c47
                 obtain ⟨ji48, hji48⟩ : ∃ j_ : Int, (shl .u8 (Go.bits .and .u8 ((ji39) % 256) (ji42)) (ji46)) = j_ := ⟨_, rfl⟩
                 replace H : (bits_Bits_Put.l0 k3 (x0_3.set ((ji43) : Int).toNat (Go.bits .or .u8 (rd x0_3 (ji43)) (ji48))) (wrap64 (x1_3 + (ji36))) a2 ji37) = some (r1, r2, r3) := by first | (rw [hji48] at H; exact H) | (simp only [hji48] at H ⊢; exact H)
                 have hji48_ : (IntKind.u8.wrap ((Go.bits .and .u8 ((ji39) % 256) (ji42)) * 2 ^ min (ji46).toNat 8)) = ji48 := hji48
                 have hji48z : (ji46) ≤ 8 → (IntKind.u8.wrap ((Go.bits .and .u8 ((ji39) % 256) (ji42)) * 2 ^ (ji46).toNat)) = ji48 := shl_small hji48
                 obtain ⟨y107, hy107⟩ : ∃ y_ : List Int, y_ = (x0_3.set ((ji43) : Int).toNat (Go.bits .or .u8 (rd x0_3 (ji43)) (ji48))) := ⟨_, rfl⟩
                 replace H : (bits_Bits_Put.l0 k3 y107 (wrap64 (x1_3 + (ji36))) a2 ji37) = some (r1, r2, r3) := by first | (rw [hy107]; with_reducible exact H) | (have H2_ := (Option.bind_some _ _).symm.trans H; rw [hy107]; with_reducible exact H2_) | (have H2_ := (Option.bind_some _ _).symm.trans H; with_reducible exact H2_) | with_reducible exact H | (rw [hy107]; exact H) | exact H
                 have Ny107 := Aside0.mk hy107
                 clear hy107
                 have H' := Aside0.mk H
                 clear H
                 try go_wp2
                 have n0_ := Aside0.mk (Kd.R_drew HO_0.out)
                 have n1_ := Aside0.mk (Kept.drew HK.out)
                 have n2_ := Aside0.mk (below_drew1 HB.out)
                 have n3_ := Aside0.mk (blk_drew BK.out)
                 clear BK
                 have BK := n3_
                 (try clear hc0 hf0)
                 (try clear hc1)
                 clear HO_0
                 clear HK
                 clear HB
                 have HO_0 := n0_
                 have HK := n1_
                 have HB := n2_
                 clear n0_ n1_ n2_ n3_
                 refine start_ (n := 11) (S := fun w' => True) (ds := []) #[false, false, false, false, false, false, false, false, false, false, false] (by kernel_rfl) rfl rfl trivial (fun hHeld => ?_); refine with_tabW bits_Bits_Put.tab15 bits_Bits_Put.bits15 (fun HT_ HW_ => ?_)
                 generalize wr.drew = w50 at HO_0 HK HB BK hHeld ⊢
                 refine pure_ (i := 0) (N := some 61) (v := ?_) (a' := ?_) #[true, false, false, false, false, false, false, false, false, false, false] rfl rfl (any_of HT_.out (by kernel_rfl)) (fun _ _ _ h => h) (Or.inl ⟨by rfl, ?_⟩) ?_ ?_
                 rotate_left
                 ·intro w'
                  go_simp
                  with_reducible rfl
                 rotate_left
                 ·simp only [Act.put, sA_, sB_, sC_, i64_w, i32_w]
                  rfl
                 refine pure_ (i := 1) (N := some 62) (v := ?_) (a' := ?_) #[true, true, false, false, false, false, false, false, false, false, false] rfl rfl (any_of HT_.out (by kernel_rfl)) (fun _ _ _ h => h) (Or.inl ⟨by rfl, ?_⟩) ?_ ?_
                 rotate_left
                 ·intro w'
                  go_simp
                  with_reducible rfl
                 rotate_left
                 ·simp only [Act.put, sA_, sB_, sC_, i64_w, i32_w]
                  rfl
                 refine pure_ (i := 2) (N := some 63) (v := ?_) (a' := ?_) #[true, true, true, false, false, false, false, false, false, false, false] rfl rfl (any_of HT_.out (by kernel_rfl)) (fun _ _ _ h => h) (Or.inl ⟨by rfl, ?_⟩) ?_ ?_
                 rotate_left
                 ·intro w'
                  go_simp
                  with_reducible rfl
                 rotate_left
                 ·simp only [Act.put, sA_, sB_, sC_, i64_w, i32_w]
                  rfl
                 refine pure_ (i := 3) (N := some 64) (v := ?_) (a' := ?_) #[true, true, true, true, false, false, false, false, false, false, false] rfl rfl (any_of HT_.out (by kernel_rfl)) (fun _ _ _ h => h) (Or.inl ⟨by rfl, ?_⟩) ?_ ?_
                 rotate_left
                 ·intro w'
                  go_simp
                  with_reducible rfl
                 rotate_left
                 ·simp only [Act.put, sA_, sB_, sC_, i64_w, i32_w]
                  rfl
                 refine pure_ (i := 4) (N := some 65) (v := ?_) (a' := ?_) #[true, true, true, true, true, false, false, false, false, false, false] rfl rfl (any_of HT_.out (by kernel_rfl)) (fun _ _ _ h => h) (Or.inl ⟨by rfl, ?_⟩) ?_ ?_
                 rotate_left
                 ·intro w'
                  go_simp
                  with_reducible rfl
                 rotate_left
                 ·simp only [Act.put, sA_, sB_, sC_, i64_w, i32_w]
                  rfl
                 refine pure_ (i := 5) (N := some 66) (v := ?_) (a' := ?_) #[true, true, true, true, true, true, false, false, false, false, false] rfl rfl (any_of HT_.out (by kernel_rfl)) (fun _ _ _ h => h) (Or.inl ⟨by rfl, ?_⟩) ?_ ?_
                 rotate_left
                 ·intro w'
                  go_simp
                  with_reducible rfl
                 rotate_left
                 ·simp only [Act.put, sA_, sB_, sC_, i64_w, i32_w]
                  rfl
                 refine pure_ (i := 6) (N := some 67) (v := ?_) (a' := ?_) #[true, true, true, true, true, true, true, false, false, false, false] rfl rfl (any_of HT_.out (by kernel_rfl)) (fun _ _ _ h => h) (Or.inl ⟨by rfl, ?_⟩) ?_ ?_
                 rotate_left
                 ·intro w'
                  go_simp
                  with_reducible rfl
                 rotate_left
                 ·simp only [Act.put, sA_, sB_, sC_, i64_w, i32_w]
                  rfl
                 refine pure_ (i := 7) (N := some 68) (v := ?_) (a' := ?_) #[true, true, true, true, true, true, true, true, false, false, false] rfl rfl (any_of HT_.out (by kernel_rfl)) (fun _ _ _ h => h) (Or.inl ⟨by rfl, ?_⟩) ?_ ?_
                 rotate_left
                 ·intro w'
                  go_simp
                  with_reducible rfl
                 rotate_left
                 ·simp only [Act.put, sA_, sB_, sC_, i64_w, i32_w]
                  rfl
                 refine pure_ (i := 8) (N := some 69) (v := ?_) (a' := ?_) #[true, true, true, true, true, true, true, true, true, false, false] rfl rfl (any_of HT_.out (by kernel_rfl)) (fun _ _ _ h => h) (Or.inl ⟨by rfl, ?_⟩) ?_ ?_
                 rotate_left
                 ·intro w'
                  go_simp
                  with_reducible rfl
                 rotate_left
                 ·simp only [Act.put, sA_, sB_, sC_, i64_w, i32_w]
                  rfl
                 refine pure_ (i := 9) (N := some 70) (v := ?_) (a' := ?_) #[true, true, true, true, true, true, true, true, true, true, false] rfl rfl (any_of HT_.out (by kernel_rfl)) (fun _ _ _ h => h) (Or.inl ⟨by rfl, ?_⟩) ?_ ?_
                 rotate_left
                 ·intro w'
                  go_simp
                  with_reducible rfl
                 rotate_left
                 ·simp only [Act.put, sA_, sB_, sC_, i64_w, i32_w]
                  rfl
                 refine pure_ (i := 10) (N := some 10) (v := ?_) (a' := ?_) #[true, true, true, true, true, true, true, true, true, true, true] rfl rfl (any_of HT_.out (by kernel_rfl)) (fun _ _ _ h => h) (Or.inl ⟨by rfl, ?_⟩) ?_ ?_
                 rotate_left
                 ·intro w'
                  go_simp
                  with_reducible rfl
                 rotate_left
                 ·simp only [Act.put, sA_, sB_, sC_, i64_w, i32_w]
                  rfl
                 refine done_ (done_of HT_.out (by kernel_rfl)) ?_
                 try go_wp2
                 have n0_ := Aside0.mk (Kd.R_drew HO_0.out)
                 have n1_ := Aside0.mk (Kept.drew HK.out)
                 have n2_ := Aside0.mk (below_drew1 HB.out)
                 have n3_ := Aside0.mk (blk_drew BK.out)
                 clear BK
                 have BK := n3_
                 (try clear hc0 hf0)
                 (try clear hc1)
                 clear HO_0
                 clear HK
                 clear HB
                 have HO_0 := n0_
                 have HK := n1_
                 have HB := n2_
                 clear n0_ n1_ n2_ n3_
                 obtain ⟨Ao52, co52, eo52⟩ := Kd.R_slice HO_0.out
                 (first | subst eo52 | (injection eo52 with f1_ f2_ f3_; have f4_ := f1_.symm; have f5_ := f3_.symm; clear f1_ f2_ f3_; subst f4_; subst f5_))
                 have p106 : 0 ≤ ((ji43) : Int) := of_decide_eq_true (by first | (with_reducible assumption) | assumption)
                 have q106 : (ji43) < (x0_3.length : Int) := of_decide_eq_true (by first | (with_reducible assumption) | assumption)
                 obtain ⟨ad106, e106, hx106_0⟩ := Kd.at_int (Kd.R_reads' HO_0.out).2.2 (ji43) p106 q106
                 cases e106
                 replace p106 := eq_true p106
                 replace q106 := eq_true q106
                 have p49 : 0 ≤ ((ji43) : Int) := of_decide_eq_true (by first | (with_reducible assumption) | assumption)
                 have q49 : ((ji43) : Int) < ((x0_3.length : Int) : Int) := of_decide_eq_true (by first | (with_reducible assumption) | assumption)
                 obtain ⟨go49, co49, eo49, gb49, gl49, cl49, HG49⟩ := Kd.R_form HO_0.out (by omega)
                 (first | cases eo49 | (injection eo49 with ea_ en_ ec_; (first | subst ea_ | (injection ea_ with ea_; subst ea_)); subst ec_; clear en_))
                 have GB49 := Aside0.mk gb49
                 have GG49 := Aside0.mk HG49
                 clear gb49 gl49 HG49
                 have HMgo49 := Aside0.mk (show (go49 = g ∨ some go49 = u9000_.ownBlock) ∨ w.heap.size ≤ go49 from (HO_0.out.1 _ rfl).2.imp .inr id)
                 (first | simp only [add_plain] at hx106_0 | skip)
                 obtain ⟨hx49_0, hf49_0⟩ := Kd.R_celln 0 HO_0.out ((ji43) : Int) p49 q49
                 replace p49 := eq_true p49
                 replace q49 := eq_true q49
                 have HP53 := Kd.R_putn HO_0.out ((ji43) : Int) (Go.bits .or .u8 (rd x0_3 (ji43)) (ji48))
                 rw [← Ny107.out] at HP53
                 have HQ53 := Aside0.mk HP53
                 clear HP53
                 refine start_ (n := 20) (S := fun w' => w'.cell? ⟨g, 0, none⟩ = some (.slice (some ⟨go49, 0, none⟩) x0_3.length co52) ∧ w'.cell? ⟨go49, ((ji43)).toNat, none⟩ = some (.int .u8 (rd x0_3 (ji43)))) (ds := [19]) #[false, false, false, false, false, false, false, false, false, false, false, false, false, false, false, false, false, false, false, false] (by kernel_rfl) rfl rfl ⟨(blk_cell BK.out 0).trans rfl, hx106_0⟩ (fun hHeld => ?_); refine with_tabW bits_Bits_Put.tab16 bits_Bits_Put.bits16 (fun HT_ HW_ => ?_)
                 generalize w50.drew = w51 at HO_0 HK HB BK GG49 HQ53 hf49_0 hx106_0 hx49_0 hHeld ⊢
                 refine pure_ (i := 0) (N := some 71) (v := ?_) (a' := ?_) #[true, false, false, false, false, false, false, false, false, false, false, false, false, false, false, false, false, false, false, false] rfl rfl (any_of HT_.out (by kernel_rfl)) (fun _ _ _ h => h) (Or.inl ⟨by rfl, ?_⟩) ?_ ?_
                 rotate_left
                 ·intro w'
                  go_simp
                  with_reducible rfl
                 rotate_left
                 ·simp only [Act.put, sA_, sB_, sC_, i64_w, i32_w]
                  rfl
                 refine pure_ (i := 1) (N := some 72) (v := ?_) (a' := ?_) #[true, true, false, false, false, false, false, false, false, false, false, false, false, false, false, false, false, false, false, false] rfl rfl (any_of HT_.out (by kernel_rfl)) (fun _ _ _ h => h) (Or.inl ⟨by rfl, ?_⟩) ?_ ?_
                 rotate_left
                 ·intro w'
                  go_simp
                  with_reducible rfl
                 rotate_left
                 ·simp only [Act.put, sA_, sB_, sC_, i64_w, i32_w]
                  rfl
                 refine pure_ (i := 2) (N := some 73) (v := ?_) (a' := ?_) #[true, true, true, false, false, false, false, false, false, false, false, false, false, false, false, false, false, false, false, false] rfl rfl (any_of HT_.out (by kernel_rfl)) (fun _ _ _ h => h) (Or.inl ⟨by rfl, ?_⟩) ?_ ?_
                 rotate_left
                 ·intro w'
                  go_simp
                  with_reducible rfl
                 rotate_left
                 ·simp only [Act.put, sA_, sB_, sC_, i64_w, i32_w]
                  rfl
                 refine pure_ (i := 4) (N := some 75) (v := ?_) (a' := ?_) #[true, true, true, false, true, false, false, false, false, false, false, false, false, false, false, false, false, false, false, false] rfl rfl (any_of HT_.out (by kernel_rfl)) (fun _ _ _ h => h) (Or.inl ⟨by rfl, ?_⟩) ?_ ?_
                 rotate_left
                 ·intro w'
                  go_simp
                  with_reducible rfl
                 rotate_left
                 ·simp only [Act.put, sA_, sB_, sC_, i64_w, i32_w]
                  rfl
                 refine pure_ (i := 5) (N := some 76) (v := ?_) (a' := ?_) #[true, true, true, false, true, true, false, false, false, false, false, false, false, false, false, false, false, false, false, false] rfl rfl (any_of HT_.out (by kernel_rfl)) (fun _ _ _ h => h) (Or.inl ⟨by rfl, ?_⟩) ?_ ?_
                 rotate_left
                 ·intro w'
                  go_simp
                  with_reducible rfl
                 rotate_left
                 ·simp only [Act.put, sA_, sB_, sC_, i64_w, i32_w]
                  rfl
                 refine pure_ (i := 6) (N := some 77) (v := ?_) (a' := ?_) #[true, true, true, false, true, true, true, false, false, false, false, false, false, false, false, false, false, false, false, false] rfl rfl (any_of HT_.out (by kernel_rfl)) (fun _ _ _ h => h) (Or.inl ⟨by rfl, ?_⟩) ?_ ?_
                 rotate_left
                 ·intro w'
                  go_simp
                  with_reducible rfl
                 rotate_left
                 ·simp only [Act.put, sA_, sB_, sC_, i64_w, i32_w]
                  rfl
                 refine pure_ (i := 12) (N := some 83) (v := ?_) (a' := ?_) #[true, true, true, false, true, true, true, false, false, false, false, false, true, false, false, false, false, false, false, false] rfl rfl (any_of HT_.out (by kernel_rfl)) (fun _ _ _ h => h) (Or.inl ⟨by rfl, ?_⟩) ?_ ?_
                 rotate_left
                 ·intro w'
                  go_simp
                  with_reducible rfl
                 rotate_left
                 ·simp only [Act.put, sA_, sB_, sC_, i64_w, i32_w]
                  rfl
                 refine pure_ (i := 13) (N := some 84) (v := ?_) (a' := ?_) #[true, true, true, false, true, true, true, false, false, false, false, false, true, true, false, false, false, false, false, false] rfl rfl (any_of HT_.out (by kernel_rfl)) (fun _ _ _ h => h) (Or.inl ⟨by rfl, ?_⟩) ?_ ?_
                 rotate_left
                 ·intro w'
                  go_simp
                  with_reducible rfl
                 rotate_left
                 ·simp only [Act.put, sA_, sB_, sC_, i64_w, i32_w]
                  rfl
                 refine pure_ (i := 14) (N := some 85) (v := ?_) (a' := ?_) #[true, true, true, false, true, true, true, false, false, false, false, false, true, true, true, false, false, false, false, false] rfl rfl (any_of HT_.out (by kernel_rfl)) (fun _ _ _ h => h) (Or.inl ⟨by rfl, ?_⟩) ?_ ?_
                 rotate_left
                 ·intro w'
                  go_simp
                  with_reducible rfl
                 rotate_left
                 ·simp only [Act.put, sA_, sB_, sC_, i64_w, i32_w]
                  rfl
                 refine pure_ (i := 15) (N := some 86) (v := ?_) (a' := ?_) #[true, true, true, false, true, true, true, false, false, false, false, false, true, true, true, true, false, false, false, false] rfl rfl (any_of HT_.out (by kernel_rfl)) (fun _ _ _ h => h) (Or.inl ⟨by rfl, ?_⟩) ?_ ?_
                 rotate_left
                 ·intro w'
                  go_simp
                  with_reducible rfl
                 rotate_left
                 ·simp only [Act.put, sA_, sB_, sC_, i64_w, i32_w]
                  rfl
                 refine pure_ (i := 16) (N := some 87) (v := ?_) (a' := ?_) #[true, true, true, false, true, true, true, false, false, false, false, false, true, true, true, true, true, false, false, false] rfl rfl (any_of HT_.out (by kernel_rfl)) (fun _ _ _ h => h) (Or.inl ⟨by rfl, ?_⟩) ?_ ?_
                 rotate_left
                 ·intro w'
                  go_simp
                  with_reducible rfl
                 rotate_left
                 ·simp only [Act.put, sA_, sB_, sC_, i64_w, i32_w]
                  rfl
                 refine take_ (i := 3) (N := some 74) (v := ?_) (a' := ?_) #[true, true, true, true, true, true, true, false, false, false, false, false, true, true, true, true, true, false, false, false] rfl rfl (take_ofW HT_.out HW_.out (by kernel_rfl)) (fun _ _ _ h => h) (Or.inl ⟨by rfl, ?_⟩) hHeld ?_ ?_
                 rotate_left
                 ·rintro w' ⟨s0, s1⟩
                  go_simp
                  with_reducible rfl
                 rotate_left
                 ·simp only [Act.put, sA_, sB_, sC_, i64_w, i32_w]
                  rfl
                 refine take_ (i := 7) (N := some 78) (v := ?_) (a' := ?_) #[true, true, true, true, true, true, true, true, false, false, false, false, true, true, true, true, true, false, false, false] rfl rfl (take_ofW HT_.out HW_.out (by kernel_rfl)) (fun _ _ _ h => h) (Or.inl ⟨by rfl, ?_⟩) hHeld ?_ ?_
                 rotate_left
                 ·rintro w' ⟨s0, s1⟩
                  go_simp
                  with_reducible rfl
                 rotate_left
                 ·simp only [Act.put, sA_, sB_, sC_, i64_w, i32_w]
                  rfl
                 refine pure_ (i := 8) (N := some 79) (v := ?_) (a' := ?_) #[true, true, true, true, true, true, true, true, true, false, false, false, true, true, true, true, true, false, false, false] rfl rfl (any_of HT_.out (by kernel_rfl)) (fun _ _ _ h => h) (Or.inl ⟨by rfl, ?_⟩) ?_ ?_
                 rotate_left
                 ·intro w'
                  go_simp
                  with_reducible rfl
                 rotate_left
                 ·simp only [Act.put, sA_, sB_, sC_, i64_w, i32_w]
                  rfl
                 refine pure_ (i := 9) (N := some 80) (v := ?_) (a' := ?_) #[true, true, true, true, true, true, true, true, true, true, false, false, true, true, true, true, true, false, false, false] rfl rfl (any_of HT_.out (by kernel_rfl)) (fun _ _ _ h => h) (Or.inl ⟨by rfl, ?_⟩) ?_ ?_
                 rotate_left
                 ·intro w'
                  go_simp
                  with_reducible rfl
                 rotate_left
                 ·simp only [Act.put, sA_, sB_, sC_, i64_w, i32_w]
                  rfl
                 refine pure_ (i := 10) (N := some 81) (v := ?_) (a' := ?_) #[true, true, true, true, true, true, true, true, true, true, true, false, true, true, true, true, true, false, false, false] rfl rfl (any_of HT_.out (by kernel_rfl)) (fun _ _ _ h => h) (Or.inl ⟨by rfl, ?_⟩) ?_ ?_
                 rotate_left
                 ·intro w'
                  go_simp
                  with_reducible rfl
                 rotate_left
                 ·simp only [Act.put, sA_, sB_, sC_, i64_w, i32_w]
                  rfl
                 refine take_ (i := 11) (N := some 82) (v := ?_) (a' := ?_) #[true, true, true, true, true, true, true, true, true, true, true, true, true, true, true, true, true, false, false, false] rfl rfl (take_ofW HT_.out HW_.out (by kernel_rfl)) (fun _ _ _ h => h) (Or.inl ⟨by rfl, ?_⟩) hHeld ?_ ?_
                 rotate_left
                 ·rintro w' ⟨s0, s1⟩
                  go_simp
                  with_reducible rfl
                 rotate_left
                 ·simp only [Act.put, sA_, sB_, sC_, i64_w, i32_w]
                  rfl
                 refine pure_ (i := 17) (N := some 88) (v := ?_) (a' := ?_) #[true, true, true, true, true, true, true, true, true, true, true, true, true, true, true, true, true, true, false, false] rfl rfl (any_of HT_.out (by kernel_rfl)) (fun _ _ _ h => h) (Or.inl ⟨by rfl, ?_⟩) ?_ ?_
                 rotate_left
                 ·intro w'
                  go_simp
                  with_reducible rfl
                 rotate_left
                 ·simp only [Act.put, sA_, sB_, sC_, i64_w, i32_w]
                  rfl
                 refine pure_ (i := 18) (N := some 89) (v := ?_) (a' := ?_) #[true, true, true, true, true, true, true, true, true, true, true, true, true, true, true, true, true, true, true, false] rfl rfl (any_of HT_.out (by kernel_rfl)) (fun _ _ _ h => h) (Or.inl ⟨by rfl, ?_⟩) ?_ ?_
                 rotate_left
                 ·intro w'
                  go_simp
                  with_reducible rfl
                 rotate_left
                 ·simp only [Act.put, sA_, sB_, sC_, i64_w, i32_w]
                  rfl
                 obtain ⟨wz, hwz⟩ : ∃ z_, z_ = (w51.setCell ⟨go49, ((ji43) : Int).toNat, none⟩ (.int .u8 (Go.bits .or .u8 (rd x0_3 (ji43)) (ji48)))) := ⟨_, rfl⟩
                 have HR2 := Aside0.mk (show Kd.R (Kd.int .u8) 5 wz w0.heap.size (fun k_ => k_ ≠ g ∧ (some k_ = u9000_.ownBlock ∨ w.heap.size ≤ k_)) (.slice (some ⟨go49, 0, none⟩) x0_3.length co52) y107 from by rw [hwz]; exact HQ53.out)
                 have BK2 := Aside0.mk (show wz.heap[g]? = some (.cells #[.slice (some ⟨go49, 0, none⟩) x0_3.length co52, .int .i64 x1_3] 26 (0, 0)) from by rw [hwz]; exact blk_far BK.out (p := ⟨go49, ((ji43) : Int).toNat, none⟩) (fun e_ => (HO_0.out.1 _ rfl).1 e_.symm) _)
                 have HK2 := Aside0.mk (show Kept w wz (fun k_ => k_ = g ∨ some k_ = u9000_.ownBlock) from by rw [hwz]; exact Kept.setCell HK.out HMgo49.out _)
                 have HB2 := Aside0.mk (show Below w0.heap.size w0 wz from by rw [hwz]; exact below_set HB.out GB49.out)
                 have HZ := Aside0.mk hwz
                 clear hwz
                 refine last_ (i := 19) (N := none) #[true, true, true, true, true, true, true, true, true, true, true, true, true, true, true, true, true, true, true, true] rfl rfl (one_of HT_.out (by kernel_rfl)) (by decide) (fun K hK => ?_)
                 refine skip_ (w1 := wz) (by rfl) rfl ?_ ?_
                 ·rw [HZ.out]
                  go_simp
                  first | rfl | (simp only [← hji48]; rfl) | (rw [← hji48]; rfl)
                 refine hK.out _ _ ?_
                 clear hK K
                 refine done_ (done_of HT_.out (by kernel_rfl)) ?_
                 have hc1 : World.cell? wz ⟨g, 1, none⟩ = some (Value.int .i64 x1_3) := (blk_cell BK2.out 1).trans rfl
                 have hf1 := blk_frozen BK2.out 1
                 go_wp2
                 go_roundg k3
                 case measure => have := HJ4.out; have := HJ7.out; have := HK3.out; omega
                 case rel => exact ⟨_, (y107), (wrap64 (x1_3 + (ji36))), (ji37), (by first | rfl | (simp only [← hji37] <;> (first | rfl | simp)) | (simp [*]; done)), (by first | exact H' | (simp only [hji36, hji37, hji39, hji40, hji42, hji43, hji46, hji48]; exact H')), ⟨by have := HJ4.out; have := HJ7.out; have := HK3.out; omega⟩, ⟨Kd.R_far (p := ⟨g, 1, none⟩) HR2.out (fun _ hk => hk.1) _⟩, ⟨blk_put BK2.out 1 _ rfl⟩, ⟨Kept.setCell HK2.out (.inl (.inl rfl)) _⟩, ⟨below_set HB2.out HG0.out⟩⟩
                ·rw [if_neg c47] at H
                 exact absurd H (by simp)
               ·rw [if_neg c45] at H
                exact absurd H (by simp)
              ·rw [if_neg c44] at H
               exact absurd H (by simp)
             ·rw [if_neg c41] at H
              exact absurd H (by simp)
            ·rw [if_neg c38] at H
             exact absurd H (by simp)
          ·rw [if_neg c14] at H
           have c14b0 : decide (0 < x7_3) = false := decide_eq_false c14
           clear c14
           simp only [Option.some.injEq, Prod.mk.injEq] at H
           obtain ⟨rfl, rfl, rfl⟩ := H
           go_wp2
           go_ret
           exact ⟨_, by first | rfl | (simp [errW_none, errW_some] <;> rfl) | (simp [*, errW_none, errW_some] <;> rfl), by (with_reducible repeat (first | refine blk_drewN ?_ _ | refine blk_drew ?_ | refine blk_alloc ?_ _)); exact BK.out, by (with_reducible repeat (first | apply Kd.R_alloc | apply Kd.R_drewN | apply Kd.R_drew)); exact HO_0.out, by repeat (first | exact HB.out | apply below_alloc | apply pw_below_drewN | apply below_drew1), by repeat (first | (with_reducible first | exact HK.out | apply Kept.alloc | apply Kept.drewN | apply Kept.drew) | exact HK.out)⟩
end Go.Proofs.Ythkpnnbjcendcaa.X
end
section
namespace Go.Proofs.Ythkpnnbjcendcaa.Pl
open Go.RowKit Go.Proofs.YthkpnnbjcendcaaW.PrintWords Go.Proofs.YthkpnnbjcendcaaW.PrintLast Go.Proofs.YthkpnnbjcendcaaW.PrintMore
theorem ev_pos {α : Type} {c : Prop} [Decidable c] {f g : Nat → Option α} {r : α} (h : c) (k : Ev f r) : Ev (fun n => if c then f n else g n) r := by
 simp only [if_pos h]; exact k
theorem ev_neg {α : Type} {c : Prop} [Decidable c] {f g : Nat → Option α} {r : α} (h : ¬ c) (k : Ev g r) : Ev (fun n => if c then f n else g n) r := by
 simp only [if_neg h]; exact k
theorem ev_some {α β : Type} {a : α} {f : Nat → α → Option β} {r : β} (k : Ev (fun n => f n a) r) : Ev (fun n => (some a).bind (f n)) r := k
theorem ev_bind {α β : Type} {g : Nat → Option α} {f : Nat → α → Option β} {a : α} {r : β} (h : Ev g a) (k : Ev (fun n => f n a) r) : Ev (fun n => (g n).bind (f n)) r := Ev.bind h k
theorem ev_const {α β : Type} {g : Option α} {f : Nat → α → Option β} {a : α} {r : β} (h : g = some a) (k : Ev (fun n => f n a) r) : Ev (fun n => g.bind (f n)) r := by rw [h]; exact k
theorem ev_eq {α : Type} {f : Nat → Option α} {r r' : α} (h : Ev f r) (e : r = r') : Ev f r' := e ▸ h
theorem ev_succ {α : Type} {g f : Nat → Option α} {r : α} (h : ∀ k, g (k + 1) = f k) (k : Ev f r) : Ev g r := Ev.step h k
theorem ev_stop {α : Type} {g : Nat → Option α} {r : α} (h : ∀ k, g (k + 1) = some r) : Ev g r :=
 ⟨1, fun k hk => by obtain ⟨k, rfl⟩ : ∃ m, k = m + 1 := ⟨k - 1, by omega⟩; exact h k⟩
theorem w64 {x : Int} (h0 : -9223372036854775808 ≤ x) (h1 : x ≤ 9223372036854775807) : wrap64 x = x := by unfold wrap64; omega
theorem mx_le {a b : Int} : a ≤ mx a b ∧ b ≤ mx a b ∧ (mx a b = a ∨ mx a b = b) := by unfold mx; split <;> omega
theorem mn_le {a b : Int} : mn a b ≤ a ∧ mn a b ≤ b ∧ (mn a b = a ∨ mn a b = b) := by unfold mn; split <;> omega
theorem getD_lt {α : Type} (l : List α) (i : Nat) (d : α) (h : i < l.length) : l.getD i d = l[i] := by
 rw [List.getD_eq_getElem?_getD, List.getElem?_eq_getElem h]; rfl
theorem tmod_pos {a b : Int} (h : 0 ≤ a) : Int.tmod a b = a % b := Int.tmod_eq_emod_of_nonneg h
theorem tdiv_pos {a b : Int} (h : 0 ≤ a) : Int.tdiv a b = a / b := Int.tdiv_eq_ediv_of_nonneg h
end Go.Proofs.Ythkpnnbjcendcaa.Pl
end
