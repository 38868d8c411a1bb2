-- By xprint.py and bof.py, out of the translation's own print. Lean checks it.
import Derived.Test.YthkpnnbjcendcaaX0
namespace Go.Proofs.Ythkpnnbjcendcaa.X
open Go.RowKit Go.Proofs.YthkpnnbjcendcaaW.PrintWords Go.Proofs.YthkpnnbjcendcaaW.PrintLast Go.Proofs.YthkpnnbjcendcaaW.PrintMore
attribute [local go_sem] max2_int min2_int max_two min_two max_three min_three max_four min_four   -- for this text's walks alone
set_option linter.unusedVariables false
set_option linter.unusedSimpArgs false

/-! ### marigraphlaw04_bitsOf: function 69 -/
def marigraphlaw04_bitsOf.l0 : Nat → ByteArray → List Int → Int → Int → Option (List Int)
  | 0, _, _, _, _ => none
  | k + 1, x1, x2, x10, x11 => if x11 < x10 then (if 0 ≤ x11 then (if x11 < (x1.size : Int) then (if (bt x1 x11) = 49 then (if 0 ≤ (wrap64 (Int.tdiv x11 8)) then (if (wrap64 (Int.tdiv x11 8)) < (x2.length : Int) then (if 0 ≤ (Int.tmod x11 8) then (marigraphlaw04_bitsOf.l0 k x1 (x2.set ((wrap64 (Int.tdiv x11 8)) : Int).toNat (Go.bits .or .u8 (rd x2 (wrap64 (Int.tdiv x11 8))) (shr .u8 128 (Int.tmod x11 8)))) x10 (wrap64 (x11 + 1))) else (none)) else (none)) else (none)) else (marigraphlaw04_bitsOf.l0 k x1 x2 x10 (wrap64 (x11 + 1)))) else (none)) else (none)) else (some x2)
def marigraphlaw04_bitsOf.f (k : Nat)  : Option (List Int) := if (0 : Int) ≤ ((36 + 7) / 8) then (if ((36 + 7) / 8 : Int).toNat ≤ 281474976710656 then (marigraphlaw04_bitsOf.l0 k (⟨#[49, 48, 48, 48, 48, 49, 48, 49, 48, 49, 48, 48, 48, 48, 49, 49, 49, 48, 49, 48, 48, 48, 48, 48, 49, 49, 49, 49, 48, 48, 48, 48, 49, 49, 48, 49]⟩ : ByteArray) (List.replicate ((36 + 7) / 8 : Int).toNat 0) 36 0) else (none)) else (none)
theorem marigraphlaw04_bitsOf.mono_l : ∀ k, (∀ y0 y1 y2 y3, LeO (marigraphlaw04_bitsOf.l0 k y0 y1 y2 y3) (marigraphlaw04_bitsOf.l0 (k + 1) y0 y1 y2 y3))
  | 0 => fun _ _ _ _ r h => by simp [marigraphlaw04_bitsOf.l0] at h
  | k + 1 => by
    have ih0 := marigraphlaw04_bitsOf.mono_l k
    · intro y0 y1 y2 y3
      unfold marigraphlaw04_bitsOf.l0
      repeat' first
      | (with_reducible exact ih0 _ _ _ _)
      | (with_reducible exact LeO.refl _)
      | (with_reducible exact LeO.none _)
      | (with_reducible refine LeO.ite ?_ ?_)
      | (with_reducible refine LeO.bind ?_ (fun _ => ?_))
      | exact ih0 _ _ _ _
      | exact LeO.none _
      | refine LeO.ite ?_ ?_
      | refine LeO.bind ?_ (fun _ => ?_)
theorem marigraphlaw04_bitsOf.mono : ∀ k, LeO (marigraphlaw04_bitsOf.f k ) (marigraphlaw04_bitsOf.f (k + 1) ) := by
  intro  k
  have ih0 := marigraphlaw04_bitsOf.mono_l k
  unfold marigraphlaw04_bitsOf.f
  repeat' first
      | (with_reducible exact ih0 _ _ _ _)
      | (with_reducible exact LeO.refl _)
      | (with_reducible exact LeO.none _)
      | (with_reducible refine LeO.ite ?_ ?_)
      | (with_reducible refine LeO.bind ?_ (fun _ => ?_))
      | exact ih0 _ _ _ _
      | exact LeO.none _
      | refine LeO.ite ?_ ?_
      | refine LeO.bind ?_ (fun _ => ?_)
def marigraphlaw04_bitsOf.T7 : Bool × List (List Nat × List Nat) := (true, [([], []), ([], []), ([1], [1]), ([0, 2], [0, 2]), ([3], [3]), ([], []), ([5], [5]), ([6], [6]), ([4, 7], [4, 7]), ([0, 2, 0, 1, 2, 3, 4, 5, 6, 7, 8], [0, 2]), ([9, 8, 0, 1, 2, 3, 4, 5, 6, 7, 8], [8, 9])])
def marigraphlaw04_bitsOf.B7 : List Nat := [0, 0, 2, 7, 15, 0, 32, 96, 255, 511, 1023]
theorem marigraphlaw04_bitsOf.tab7 : rtab .any (opsOf Try.f69 7) = marigraphlaw04_bitsOf.T7 := by kernel_rfl
theorem marigraphlaw04_bitsOf.bits7 : waitsOk marigraphlaw04_bitsOf.T7.2 marigraphlaw04_bitsOf.B7 = true := by kernel_rfl
set_option maxHeartbeats 8000000 in
set_option maxRecDepth 100000 in
theorem marigraphlaw04_bitsOf.calls (k : Nat)  (r : List Int) (w : World) (h : marigraphlaw04_bitsOf.f k  = some r) :
    Calls Try.prog 69 #[] w fun e w' => ∃ v0_ : Value, e = .returned (v0_) ∧ Kd.R (Kd.int .u8) 5 w' w.heap.size (fun _ => True) v0_ r ∧ Below w.heap.size w w' := by
  have HB := Aside0.mk (Below.refl w.heap.size w)
  have H : (if (0 : Int) ≤ ((36 + 7) / 8) then (if ((36 + 7) / 8 : Int).toNat ≤ 281474976710656 then (marigraphlaw04_bitsOf.l0 k (⟨#[49, 48, 48, 48, 48, 49, 48, 49, 48, 49, 48, 48, 48, 48, 49, 49, 49, 48, 49, 48, 48, 48, 48, 48, 49, 49, 49, 49, 48, 48, 48, 48, 49, 49, 48, 49]⟩ : ByteArray) (List.replicate ((36 + 7) / 8 : Int).toNat 0) 36 0) else (none)) else (none)) = some r := h
  clear h
  have hji1 : ((36 + 7) / 8 : Int) = 5 := rfl
  replace H : (if 0 ≤ (5 : Int) then (if (5 : Int).toNat ≤ 281474976710656 then (marigraphlaw04_bitsOf.l0 k (⟨#[49, 48, 48, 48, 48, 49, 48, 49, 48, 49, 48, 48, 48, 48, 49, 49, 49, 48, 49, 48, 48, 48, 48, 48, 49, 49, 49, 49, 48, 48, 48, 48, 49, 49, 48, 49]⟩ : ByteArray) (List.replicate (5 : Int).toNat 0) 36 0) else (none)) else (none)) = some r := by first | (rw [hji1] at H; exact H) | (simp only [hji1] at H ⊢; exact H)
  by_cases c2 : 0 ≤ (5 : Int)
  · rw [if_pos c2] at H
    have c2b0 := eq_true c2
    have c2b1 : decide (0 ≤ (5 : Int)) = true := decide_eq_true c2
    clear c2
    by_cases c3 : (5 : Int).toNat ≤ 281474976710656
    · rw [if_pos c3] at H
      have c3b0 := eq_true c3
      have c3b1 : decide ((5 : Int).toNat ≤ 281474976710656) = true := decide_eq_true c3
      clear c3
      obtain ⟨y193, hy193⟩ : ∃ y_ : List Int, y_ = (List.replicate (5 : Int).toNat 0) := ⟨_, rfl⟩
      replace H : (marigraphlaw04_bitsOf.l0 k (⟨#[49, 48, 48, 48, 48, 49, 48, 49, 48, 49, 48, 48, 48, 48, 49, 49, 49, 48, 49, 48, 48, 48, 48, 48, 49, 49, 49, 49, 48, 48, 48, 48, 49, 49, 48, 49]⟩ : ByteArray) y193 36 0) = some r := by first | (rw [hy193]; with_reducible exact H) | (have H2_ := (Option.bind_some _ _).symm.trans H; rw [hy193]; with_reducible exact H2_) | (have H2_ := (Option.bind_some _ _).symm.trans H; with_reducible exact H2_) | with_reducible exact H | (rw [hy193]; exact H) | exact H
      have Ny193 := Aside0.mk hy193
      clear hy193
      have H' := Aside0.mk H
      clear H
      go_enter Try.func69, Try.ntmps69
      go_wp2_with (first | ((with_reducible refine gate_dst (N := 8) rfl ?_); refine Kd.R_make (Kd.int .u8) _ 5 rfl (N := 8) rfl 24 _ _ rfl (5 : Int) rfl rfl Try.underlying24 (.int .u8 0) 1 info5 rfl (by decide) (by omega) 0 (ok := fun _ => True) (okp := fun _ => True) rfl (fun _ hk => hk) trivial (of_decide_eq_true (by first | (with_reducible assumption) | assumption)) (Nat.le_trans (Nat.mul_le_mul_right _ (of_decide_eq_true (by first | (with_reducible assumption) | assumption) : (5 : Int).toNat ≤ 281474976710656)) (by omega)) (Below.refl _ _) (Nat.le_refl _) ?_; intro v194 w4 ho5 hb hg_ hnew_; clear hg_ hnew_; (first | rw [← Ny193.out] at ho5 | (simp only [Int.reduceToNat] at ho5; rw [← Ny193.out] at ho5)); have n0_ := Aside0.mk (Kd.R_lower ho5 (below_size (by repeat (first | (with_reducible first | exact HB.out | apply below_alloc | apply pw_below_drewN | apply below_drew1) | exact HB.out)))); have n1_ := Aside0.mk (below_step (by repeat (first | (with_reducible first | exact HB.out | apply below_alloc | apply pw_below_drewN | apply below_drew1) | exact HB.out)) hb); clear HB; have HO195 := n0_; have HB := n1_; clear n0_ n1_; clear hb ho5))
      go_loopg [11] k (fun kq v11 w' => ∃ (x2_1 : List Int) (x11_1 : Int), v11 = .int .i64 x11_1 ∧ Aside0 (marigraphlaw04_bitsOf.l0 kq (⟨#[49, 48, 48, 48, 48, 49, 48, 49, 48, 49, 48, 48, 48, 48, 49, 49, 49, 48, 49, 48, 48, 48, 48, 48, 49, 49, 49, 49, 48, 48, 48, 48, 49, 49, 48, 49]⟩ : ByteArray) x2_1 36 x11_1 = some r) ∧ Aside0 (kq ≤ k) ∧ Aside0 (Kd.R (Kd.int .u8) 5 w' w.heap.size (fun _ => True) v194 x2_1) ∧ Aside0 (Below w.heap.size w w'))
      case atStart => exact ⟨(y193), (0), (by first | rfl | (simp; done) | (simp [*]; done) | (simp <;> grind)), H', ⟨Nat.le_refl _⟩, ⟨by (with_reducible repeat (first | apply Kd.R_alloc | apply Kd.R_drewN | apply Kd.R_drew)); exact HO195.out⟩, ⟨by repeat (first | (with_reducible first | exact HB.out | apply below_alloc | apply pw_below_drewN | apply below_drew1) | exact HB.out)⟩⟩
      case round =>
        clear H'
        try clear c2
        try clear c2b0
        try clear c2b1
        try clear p2
        try clear c3
        try clear c3b0
        try clear c3b1
        obtain ⟨x2_1, x11_1, rfl, HA, HK1, HO_2, HB⟩ := hrel
        cases gk with
        | zero => exact absurd HA.out (by simp [marigraphlaw04_bitsOf.l0])
        | succ k1 =>
          have H := HA.out
          clear HA
          simp only [marigraphlaw04_bitsOf.l0] at H
          by_cases c6 : x11_1 < 36
          · rw [if_pos c6] at H
            have c6b0 : decide (x11_1 < 36) = true := decide_eq_true c6
            clear c6
            by_cases c7 : 0 ≤ x11_1
            · rw [if_pos c7] at H
              have c7b0 : decide (0 ≤ x11_1) = true := decide_eq_true c7
              clear c7
              by_cases c8 : x11_1 < ((⟨#[49, 48, 48, 48, 48, 49, 48, 49, 48, 49, 48, 48, 48, 48, 49, 49, 49, 48, 49, 48, 48, 48, 48, 48, 49, 49, 49, 49, 48, 48, 48, 48, 49, 49, 48, 49]⟩ : ByteArray).size : Int)
              · rw [if_pos c8] at H
                have c8b0 : decide (x11_1 < ((⟨#[49, 48, 48, 48, 48, 49, 48, 49, 48, 49, 48, 48, 48, 48, 49, 49, 49, 48, 49, 48, 48, 48, 48, 48, 49, 49, 49, 49, 48, 48, 48, 48, 49, 49, 48, 49]⟩ : ByteArray).size : Int)) = true := decide_eq_true c8
                clear c8
                by_cases c10 : (bt (⟨#[49, 48, 48, 48, 48, 49, 48, 49, 48, 49, 48, 48, 48, 48, 49, 49, 49, 48, 49, 48, 48, 48, 48, 48, 49, 49, 49, 49, 48, 48, 48, 48, 49, 49, 48, 49]⟩ : ByteArray) x11_1) = 49
                · rw [if_pos c10] at H
                  have c10b0 : ((bt (⟨#[49, 48, 48, 48, 48, 49, 48, 49, 48, 49, 48, 48, 48, 48, 49, 49, 49, 48, 49, 48, 48, 48, 48, 48, 49, 49, 49, 49, 48, 48, 48, 48, 49, 49, 48, 49]⟩ : ByteArray) x11_1) == 49) = true := beq_iff_eq.mpr c10
                  have c10b1 : ((bt (⟨#[49, 48, 48, 48, 48, 49, 48, 49, 48, 49, 48, 48, 48, 48, 49, 49, 49, 48, 49, 48, 48, 48, 48, 48, 49, 49, 49, 49, 48, 48, 48, 48, 49, 49, 48, 49]⟩ : ByteArray) x11_1) != 49) = false := bne_eq_false_iff_eq.mpr c10
                  clear c10
                  obtain ⟨ji11, hji11⟩ : ∃ j_ : Int, (wrap64 (Int.tdiv x11_1 8)) = j_ := ⟨_, rfl⟩
                  replace H : (if 0 ≤ (ji11) then (if (ji11) < (x2_1.length : Int) then (if 0 ≤ (Int.tmod x11_1 8) then (marigraphlaw04_bitsOf.l0 k1 (⟨#[49, 48, 48, 48, 48, 49, 48, 49, 48, 49, 48, 48, 48, 48, 49, 49, 49, 48, 49, 48, 48, 48, 48, 48, 49, 49, 49, 49, 48, 48, 48, 48, 49, 49, 48, 49]⟩ : ByteArray) (x2_1.set ((ji11) : Int).toNat (Go.bits .or .u8 (rd x2_1 (ji11)) (shr .u8 128 (Int.tmod x11_1 8)))) 36 (wrap64 (x11_1 + 1))) else (none)) else (none)) else (none)) = some r := by first | (rw [hji11] at H; exact H) | (simp only [hji11] at H ⊢; exact H)
                  have hji11w : (IntKind.i64.wrap (Int.tdiv x11_1 8)) = ji11 := (i64_w _).trans hji11
                  by_cases c12 : 0 ≤ (ji11)
                  · rw [if_pos c12] at H
                    have c12b0 : decide (0 ≤ (ji11)) = true := decide_eq_true c12
                    clear c12
                    by_cases c13 : (ji11) < (x2_1.length : Int)
                    · rw [if_pos c13] at H
                      have c13b0 : decide ((ji11) < (x2_1.length : Int)) = true := decide_eq_true c13
                      clear c13
                      obtain ⟨ji14, hji14⟩ : ∃ j_ : Int, (Int.tmod x11_1 8) = j_ := ⟨_, rfl⟩
                      replace H : (if 0 ≤ (ji14) then (marigraphlaw04_bitsOf.l0 k1 (⟨#[49, 48, 48, 48, 48, 49, 48, 49, 48, 49, 48, 48, 48, 48, 49, 49, 49, 48, 49, 48, 48, 48, 48, 48, 49, 49, 49, 49, 48, 48, 48, 48, 49, 49, 48, 49]⟩ : ByteArray) (x2_1.set ((ji11) : Int).toNat (Go.bits .or .u8 (rd x2_1 (ji11)) (shr .u8 128 (ji14)))) 36 (wrap64 (x11_1 + 1))) else (none)) = some r := by first | (rw [hji14] at H; exact H) | (simp only [hji14] at H ⊢; exact H)
                      by_cases c15 : 0 ≤ (ji14)
                      · rw [if_pos c15] at H
                        have c15b0 := eq_true c15
                        have c15b1 : decide (0 ≤ (ji14)) = true := decide_eq_true c15
                        clear c15
                        obtain ⟨ji16, hji16⟩ : ∃ j_ : Int, (shr .u8 128 (ji14)) = j_ := ⟨_, rfl⟩
                        replace H : (marigraphlaw04_bitsOf.l0 k1 (⟨#[49, 48, 48, 48, 48, 49, 48, 49, 48, 49, 48, 48, 48, 48, 49, 49, 49, 48, 49, 48, 48, 48, 48, 48, 49, 49, 49, 49, 48, 48, 48, 48, 49, 49, 48, 49]⟩ : ByteArray) (x2_1.set ((ji11) : Int).toNat (Go.bits .or .u8 (rd x2_1 (ji11)) (ji16))) 36 (wrap64 (x11_1 + 1))) = some r := by first | (rw [hji16] at H; exact H) | (simp only [hji16] at H ⊢; exact H)
                        have hji16_ : (128 / 2 ^ min (ji14).toNat 8) = ji16 := hji16
                        have hji16z : (ji14) ≤ 8 → (128 / 2 ^ (ji14).toNat) = ji16 := shr_small hji16
                        obtain ⟨y197, hy197⟩ : ∃ y_ : List Int, y_ = (x2_1.set ((ji11) : Int).toNat (Go.bits .or .u8 (rd x2_1 (ji11)) (ji16))) := ⟨_, rfl⟩
                        replace H : (marigraphlaw04_bitsOf.l0 k1 (⟨#[49, 48, 48, 48, 48, 49, 48, 49, 48, 49, 48, 48, 48, 48, 49, 49, 49, 48, 49, 48, 48, 48, 48, 48, 49, 49, 49, 49, 48, 48, 48, 48, 49, 49, 48, 49]⟩ : ByteArray) y197 36 (wrap64 (x11_1 + 1))) = some r := by first | (rw [hy197]; with_reducible exact H) | (have H2_ := (Option.bind_some _ _).symm.trans H; rw [hy197]; with_reducible exact H2_) | (have H2_ := (Option.bind_some _ _).symm.trans H; with_reducible exact H2_) | with_reducible exact H | (rw [hy197]; exact H) | exact H
                        have Ny197 := Aside0.mk hy197
                        clear hy197
                        have H' := Aside0.mk H
                        clear H
                        have p9 : 0 ≤ (x11_1 : Int) := of_decide_eq_true (by first | (with_reducible assumption) | assumption)
                        have q9 : x11_1 < (36 : Int) := of_decide_eq_true (by first | (with_reducible assumption) | assumption)
                        have hx9 := bt_at (⟨#[49, 48, 48, 48, 48, 49, 48, 49, 48, 49, 48, 48, 48, 48, 49, 49, 49, 48, 49, 48, 48, 48, 48, 48, 49, 49, 49, 49, 48, 48, 48, 48, 49, 49, 48, 49]⟩ : ByteArray) x11_1
                        replace p9 := eq_true p9
                        replace q9 := eq_true q9
                        try go_wp2
                        have n0_ := Aside0.mk (Kd.R_drew HO_2.out)
                        have n1_ := Aside0.mk (below_drew1 HB.out)
                        clear HO_2
                        clear HB
                        have HO_2 := n0_
                        have HB := n1_
                        clear n0_ n1_
                        obtain ⟨Ao19, co19, eo19⟩ := Kd.R_slice HO_2.out
                        (first | subst eo19 | (injection eo19 with f1_ f2_ f3_; have f4_ := f1_.symm; have f5_ := f3_.symm; clear f1_ f2_ f3_; subst f4_; subst f5_))
                        have p196 : 0 ≤ ((ji11) : Int) := of_decide_eq_true (by first | (with_reducible assumption) | assumption)
                        have q196 : (ji11) < (x2_1.length : Int) := of_decide_eq_true (by first | (with_reducible assumption) | assumption)
                        obtain ⟨ad196, e196, hx196_0⟩ := Kd.at_int (Kd.R_reads' HO_2.out).2.2 (ji11) p196 q196
                        cases e196
                        replace p196 := eq_true p196
                        replace q196 := eq_true q196
                        have p17 : 0 ≤ ((ji11) : Int) := of_decide_eq_true (by first | (with_reducible assumption) | assumption)
                        have q17 : ((ji11) : Int) < ((x2_1.length : Int) : Int) := of_decide_eq_true (by first | (with_reducible assumption) | assumption)
                        obtain ⟨go17, co17, eo17, gb17, gl17, cl17, HG17⟩ := Kd.R_form HO_2.out (by omega)
                        (first | cases eo17 | (injection eo17 with ea_ en_ ec_; (first | subst ea_ | (injection ea_ with ea_; subst ea_)); subst ec_; clear en_))
                        have GB17 := Aside0.mk gb17
                        have GG17 := Aside0.mk HG17
                        clear gb17 gl17 HG17
                        (first | simp only [add_plain] at hx196_0 | skip)
                        obtain ⟨hx17_0, hf17_0⟩ := Kd.R_celln 0 HO_2.out ((ji11) : Int) p17 q17
                        replace p17 := eq_true p17
                        replace q17 := eq_true q17
                        have HP20 := Kd.R_putn HO_2.out ((ji11) : Int) (Go.bits .or .u8 (rd x2_1 (ji11)) (ji16))
                        rw [← Ny197.out] at HP20
                        have HQ20 := Aside0.mk HP20
                        clear HP20
                        refine start_ (n := 11) (S := fun w' => w'.cell? ⟨go17, ((ji11)).toNat, none⟩ = some (.int .u8 (rd x2_1 (ji11)))) (ds := [10]) #[false, false, false, false, false, false, false, false, false, false, false] (by kernel_rfl) rfl rfl (hx196_0) (fun hHeld => ?_); refine with_tabW marigraphlaw04_bitsOf.tab7 marigraphlaw04_bitsOf.bits7 (fun HT_ HW_ => ?_)
                        generalize wr.drew = w18 at HO_2 HB GG17 HQ20 hf17_0 hx17_0 hx196_0 hHeld ⊢
                        refine pure_ (i := 0) (N := some 18) (v := ?_) (a' := ?_) #[true, false, false, false, false, false, false, false, false, false, false] rfl rfl (any_of HT_.out (by kernel_rfl)) (fun _ _ _ h => h) (Or.inl ⟨by rfl, ?_⟩) ?_ ?_
                        rotate_left
                        · intro w'
                          go_simp
                          with_reducible rfl
                        rotate_left
                        · simp only [Act.put, List.setIfInBounds_toArray, List.set_cons_zero, List.set_cons_succ, i64_w, i32_w]
                          rfl
                        refine pure_ (i := 1) (N := some 19) (v := ?_) (a' := ?_) #[true, true, false, false, false, false, false, false, false, false, false] rfl rfl (any_of HT_.out (by kernel_rfl)) (fun _ _ _ h => h) (Or.inl ⟨by rfl, ?_⟩) ?_ ?_
                        rotate_left
                        · intro w'
                          go_simp
                          with_reducible rfl
                        rotate_left
                        · simp only [Act.put, List.setIfInBounds_toArray, List.set_cons_zero, List.set_cons_succ, i64_w, i32_w]
                          rfl
                        refine pure_ (i := 2) (N := some 20) (v := ?_) (a' := ?_) #[true, true, true, false, false, false, false, false, false, false, false] rfl rfl (any_of HT_.out (by kernel_rfl)) (fun _ _ _ h => h) (Or.inl ⟨by rfl, ?_⟩) ?_ ?_
                        rotate_left
                        · intro w'
                          go_simp
                          with_reducible rfl
                        rotate_left
                        · simp only [Act.put, List.setIfInBounds_toArray, List.set_cons_zero, List.set_cons_succ, i64_w, i32_w]
                          rfl
                        refine pure_ (i := 3) (N := some 21) (v := ?_) (a' := ?_) #[true, true, true, true, false, false, false, false, false, false, false] rfl rfl (any_of HT_.out (by kernel_rfl)) (fun _ _ _ h => h) (Or.inl ⟨by rfl, ?_⟩) ?_ ?_
                        rotate_left
                        · intro w'
                          go_simp
                          with_reducible rfl
                        rotate_left
                        · simp only [Act.put, List.setIfInBounds_toArray, List.set_cons_zero, List.set_cons_succ, i64_w, i32_w]
                          rfl
                        refine pure_ (i := 5) (N := some 23) (v := ?_) (a' := ?_) #[true, true, true, true, false, true, false, false, false, false, false] rfl rfl (any_of HT_.out (by kernel_rfl)) (fun _ _ _ h => h) (Or.inl ⟨by rfl, ?_⟩) ?_ ?_
                        rotate_left
                        · intro w'
                          go_simp
                          with_reducible rfl
                        rotate_left
                        · simp only [Act.put, List.setIfInBounds_toArray, List.set_cons_zero, List.set_cons_succ, i64_w, i32_w]
                          rfl
                        refine pure_ (i := 6) (N := some 24) (v := ?_) (a' := ?_) #[true, true, true, true, false, true, true, false, false, false, false] rfl rfl (any_of HT_.out (by kernel_rfl)) (fun _ _ _ h => h) (Or.inl ⟨by rfl, ?_⟩) ?_ ?_
                        rotate_left
                        · intro w'
                          go_simp
                          with_reducible rfl
                        rotate_left
                        · simp only [Act.put, List.setIfInBounds_toArray, List.set_cons_zero, List.set_cons_succ, i64_w, i32_w]
                          rfl
                        refine pure_ (i := 7) (N := some 25) (v := ?_) (a' := ?_) #[true, true, true, true, false, true, true, true, false, false, false] rfl rfl (any_of HT_.out (by kernel_rfl)) (fun _ _ _ h => h) (Or.inl ⟨by rfl, ?_⟩) ?_ ?_
                        rotate_left
                        · intro w'
                          go_simp
                          with_reducible rfl
                        rotate_left
                        · simp only [Act.put, List.setIfInBounds_toArray, List.set_cons_zero, List.set_cons_succ, i64_w, i32_w]
                          rfl
                        refine take_ (i := 4) (N := some 22) (v := ?_) (a' := ?_) #[true, true, true, true, true, true, true, true, false, false, false] rfl rfl (take_ofW HT_.out HW_.out (by kernel_rfl)) (fun _ _ _ h => h) (Or.inl ⟨by rfl, ?_⟩) hHeld ?_ ?_
                        rotate_left
                        · intro w' s0
                          go_simp
                          with_reducible rfl
                        rotate_left
                        · simp only [Act.put, List.setIfInBounds_toArray, List.set_cons_zero, List.set_cons_succ, i64_w, i32_w]
                          rfl
                        refine pure_ (i := 8) (N := some 26) (v := ?_) (a' := ?_) #[true, true, true, true, true, true, true, true, true, false, false] rfl rfl (any_of HT_.out (by kernel_rfl)) (fun _ _ _ h => h) (Or.inl ⟨by rfl, ?_⟩) ?_ ?_
                        rotate_left
                        · intro w'
                          go_simp
                          with_reducible rfl
                        rotate_left
                        · simp only [Act.put, List.setIfInBounds_toArray, List.set_cons_zero, List.set_cons_succ, i64_w, i32_w]
                          rfl
                        refine pure_ (i := 9) (N := some 27) (v := ?_) (a' := ?_) #[true, true, true, true, true, true, true, true, true, true, false] rfl rfl (any_of HT_.out (by kernel_rfl)) (fun _ _ _ h => h) (Or.inl ⟨by rfl, ?_⟩) ?_ ?_
                        rotate_left
                        · intro w'
                          go_simp
                          with_reducible rfl
                        rotate_left
                        · simp only [Act.put, List.setIfInBounds_toArray, List.set_cons_zero, List.set_cons_succ, i64_w, i32_w]
                          rfl
                        refine last_ (i := 10) (N := none) #[true, true, true, true, true, true, true, true, true, true, true] rfl rfl (one_of HT_.out (by kernel_rfl)) (by decide) (fun K hK => ?_)
                        refine skip_ (w1 := ?_) (by rfl) rfl ?_ ?_
                        rotate_left
                        · go_simp
                          rfl
                        refine hK.out _ _ ?_
                        clear hK K
                        refine done_ (done_of HT_.out (by kernel_rfl)) ?_
                        try go_wp2
                        go_roundg k1
                        case measure => have := HK1.out; omega
                        case rel => exact ⟨(y197), (wrap64 (x11_1 + 1)), (by first | rfl | (simp; done) | (simp [*]; done) | (simp <;> grind)), (by first | exact H' | (simp only [hji1, hji11, hji14, hji16]; exact H')), ⟨by have := HK1.out; omega⟩, ⟨by (with_reducible repeat (first | apply Kd.R_alloc | apply Kd.R_drewN | apply Kd.R_drew)); exact HQ20.out⟩, ⟨by repeat (first | (with_reducible first | exact HB.out | apply below_alloc | apply pw_below_drewN | apply below_drew1 | refine below_set ?_ GB17.out) | exact HB.out)⟩⟩
                      · rw [if_neg c15] at H
                        exact absurd H (by simp)
                    · rw [if_neg c13] at H
                      exact absurd H (by simp)
                  · rw [if_neg c12] at H
                    exact absurd H (by simp)
                · rw [if_neg c10] at H
                  have c10b0 : ((bt (⟨#[49, 48, 48, 48, 48, 49, 48, 49, 48, 49, 48, 48, 48, 48, 49, 49, 49, 48, 49, 48, 48, 48, 48, 48, 49, 49, 49, 49, 48, 48, 48, 48, 49, 49, 48, 49]⟩ : ByteArray) x11_1) == 49) = false := beq_eq_false_iff_ne.mpr c10
                  have c10b1 : ((bt (⟨#[49, 48, 48, 48, 48, 49, 48, 49, 48, 49, 48, 48, 48, 48, 49, 49, 49, 48, 49, 48, 48, 48, 48, 48, 49, 49, 49, 49, 48, 48, 48, 48, 49, 49, 48, 49]⟩ : ByteArray) x11_1) != 49) = true := bne_iff_ne.mpr c10
                  have H' := Aside0.mk H
                  clear H
                  have p9 : 0 ≤ (x11_1 : Int) := of_decide_eq_true (by first | (with_reducible assumption) | assumption)
                  have q9 : x11_1 < (36 : Int) := of_decide_eq_true (by first | (with_reducible assumption) | assumption)
                  have hx9 := bt_at (⟨#[49, 48, 48, 48, 48, 49, 48, 49, 48, 49, 48, 48, 48, 48, 49, 49, 49, 48, 49, 48, 48, 48, 48, 48, 49, 49, 49, 49, 48, 48, 48, 48, 49, 49, 48, 49]⟩ : ByteArray) x11_1
                  replace p9 := eq_true p9
                  replace q9 := eq_true q9
                  go_wp2
                  go_roundg k1
                  case measure => have := HK1.out; omega
                  case rel => exact ⟨(x2_1), (wrap64 (x11_1 + 1)), (by first | rfl | (simp; done) | (simp [*]; done) | (simp <;> grind)), (by first | exact H' | (simp only [hji1]; exact H')), ⟨by have := HK1.out; omega⟩, ⟨by (with_reducible repeat (first | apply Kd.R_alloc | apply Kd.R_drewN | apply Kd.R_drew)); exact HO_2.out⟩, ⟨by repeat (first | (with_reducible first | exact HB.out | apply below_alloc | apply pw_below_drewN | apply below_drew1) | exact HB.out)⟩⟩
              · rw [if_neg c8] at H
                exact absurd H (by simp)
            · rw [if_neg c7] at H
              exact absurd H (by simp)
          · rw [if_neg c6] at H
            have c6b0 : decide (x11_1 < 36) = false := decide_eq_false c6
            clear c6
            obtain rfl := Option.some.inj H
            go_wp2
            go_ret
            exact ⟨_, by first | rfl | (simp [errW_none, errW_some] <;> rfl) | (simp only [← hji1]; first | rfl | (simp [errW_none, errW_some] <;> rfl)) | (simp [*, errW_none, errW_some] <;> rfl), by (with_reducible repeat (first | apply Kd.R_alloc | apply Kd.R_drewN | apply Kd.R_drew)); exact HO_2.out, by repeat (first | (with_reducible first | exact HB.out | apply below_alloc | apply pw_below_drewN | apply below_drew1) | exact HB.out)⟩
    · rw [if_neg c3] at H
      exact absurd H (by simp)
  · rw [if_neg c2] at H
    exact absurd H (by simp)

end Go.Proofs.Ythkpnnbjcendcaa.X
