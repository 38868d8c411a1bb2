/- octs.Put, walked: bytes, and a number behind them. -/
import Derived.Test.YthkpnnbjcendcaaBc
import Derived.Test.YthkpnnbjcendcaaPs
set_option linter.unusedVariables false
set_option linter.unusedSimpArgs false
open Go.RowKit Go.Proofs.Ythkpnnbjcendcaa.X Go.Proofs.Ythkpnnbjcendcaa.Pl Go.Proofs.Ythkpnnbjcendcaa.Sp Go.Proofs.Ythkpnnbjcendcaa.Pure Go.Proofs.YthkpnnbjcendcaaW.PrintWords Go.Proofs.YthkpnnbjcendcaaW.PrintLast Go.Proofs.YthkpnnbjcendcaaW.PrintMore
namespace Go.Proofs.Ythkpnnbjcendcaa.Pure
theorem or_all : ∀ x, x < 256 → x ||| 128 = x % 128 + 128 := by decide +kernel
theorem or_128 (n : Nat) : Go.bits .or .u8 ((n : Int) % 256) 128 = ((n % 128 + 128 : Nat) : Int) := by
  have h := (bits_nat .u8 8 (by decide) wraps_u8 (n % 256) 128 (Nat.mod_lt _ (by decide)) (by decide)).2
  rw [show (n : Int) % 256 = ((n % 256 : Nat) : Int) by omega]
  rw [show (128 : Int) = ((128 : Nat) : Int) from rfl, h, or_all _ (Nat.mod_lt _ (by decide))]
  omega
theorem varint_small {n : Nat} (h : n < 128) : varint n = [(n : Int)] := by rw [varint, dif_pos h]
theorem varint_big {n : Nat} (h : ¬ n < 128) : varint n = ((n % 128 + 128 : Nat) : Int) :: varint (n / 128) := by rw [varint, dif_neg h]
end Go.Proofs.Ythkpnnbjcendcaa.Pure
namespace Go.Proofs.Ythkpnnbjcendcaa.Sc
set_option maxHeartbeats 8000000 in
set_option maxRecDepth 100000 in
theorem oput_calls (A0 : Option Addr) (c0 : Nat) (b : List Int) (n : Nat) (w : World) (hr0 : Kd.C (Kd.int .u8) w A0 b.length b) (hl : b.length ≤ 100000000) (hn : n < 2 ^ 64) :
    Calls Try.prog 65 #[.slice A0 b.length c0, .int .u64 (n : Int)] w fun e w' => ∃ v, e = .returned v ∧ Kd.R (Kd.int .u8) 5 w' w.heap.size (fun _ => True) v (b ++ varint n) ∧ Below w.heap.size w w' := by
  have HB := Aside0.mk (Below.refl w.heap.size w)
  have HS := Aside0.mk (Sep.nil w.heap.size w)
  have HR := Aside0.mk hr0
  have HL := Aside0.mk hl
  have HN := Aside0.mk hn
  obtain ⟨m, hm⟩ : ∃ m : Nat, m = b.length + 10 := ⟨_, rfl⟩
  have hw : wrap64 ((b.length : Int) + 10) = (m : Int) := by rw [w64 (by omega) (by omega)]; omega
  have HM := Aside0.mk hm
  clear hr0 hl hn hm
  go_enter Try.func65, Try.ntmps65
  go_wp2_with (first
    | ((with_reducible refine gate_dst (N := 9) rfl ?_); (try (refine gate_guard (by rfl) ?_; dsimp only)); (refine wp_makecap (Kd.int .u8) (w0 := w) rfl (N := 9) rfl 24 5 (.const (.int .i64 0)) (.tmp 8) rfl (m) Try.underlying24 (.int .u8 0) 1 info5 rfl (by decide) (by omega) (by have := HM.out; have := HL.out; omega) (by repeat (first | (with_reducible first | exact HS.out | apply sep_alloc | apply sep_drewN | apply sep_drew) | exact HS.out)) (by repeat (first | (with_reducible first | exact HB.out | apply below_alloc | apply pw_below_drewN | apply below_drew1) | exact HB.out)) ?hx_ ?hy_ ?_; (case hx_ => first | rfl | (go_simp; done)); (case hy_ => first | rfl | (go_simp; done))); intro A_ c_ w_ F_ hs_ hb_; clear HB HS; have HB := Aside0.mk hb_; have HS := Aside0.mk hs_; clear hs_ hb_; (skip))
    | ((with_reducible refine gate_builtin (b := .append) (xs := #[.tmp 9, .tmp 10]) rfl ?_); (refine wp_append_row (Kd.int .u8) (w0 := w) rfl (.tmp 9) (.tmp 10) 24 5 (.int .u8 0) 1 rfl Try.underlying24 info5 rfl (by decide) (by omega) b _ _ _ HS.out (Kd.C_below HR.out HB.out) (fun _ _ h => h) (by repeat (first | (with_reducible first | exact HB.out | apply below_alloc | apply pw_below_drewN | apply below_drew1) | exact HB.out)) (by have := HL.out; simp; omega) rfl rfl ?_); (intro v_ w_ F_ hs_ hb_); (obtain ⟨O0, hy_⟩ : ∃ y_, y_ = ([] : List Int) ++ b := ⟨_, rfl⟩; rw [← hy_] at hs_; have HO0 := Aside0.mk hy_; clear hy_ HB HS; have HB := Aside0.mk hb_; have HS := Aside0.mk hs_; clear hs_ hb_; obtain ⟨A_, c_, e_⟩ := Kd.R_slice (Sep.R HS.out); subst e_); (skip)))
  go_loopg [1, 5] 10 (fun kq v1 v5 w' => ∃ (x : Nat) (O : List Int) (F : Nat → Prop), v1 = .int .u64 (x : Int) ∧ Aside0 (x < 128 ^ kq ∧ O.length + kq = b.length + 10 ∧ O ++ varint x = b ++ varint n) ∧ Aside0 (Sep w.heap.size w' [row F (Kd.int .u8) 5 w.heap.size v5 O]) ∧ Aside0 (Below w.heap.size w w'))
  case atStart => exact ⟨n, O0, _, rfl, ⟨Nat.lt_of_lt_of_le HN.out (by decide), by rw [HO0.out]; simp, by rw [HO0.out]; simp⟩, HS, HB⟩
  case round =>
    clear HS HB
    obtain ⟨x, O, F, rfl, HI, HS, HB⟩ := hrel
    obtain ⟨A_, c_, e_⟩ := Kd.R_slice (Sep.R HS.out)
    subst e_
    have HOL := Aside0.mk (show O.length + 1 ≤ 140737488355328 by have := HI.out; have := HL.out; omega)
    by_cases hx : x < 128
    · have hb1 : decide (128 ≤ (x : Int)) = false := decide_eq_false (by omega)
      have hb2 : (x : Int) % 256 = (x : Int) := by omega
      have HX := Aside0.mk hx
      clear hx
      go_wp2_with (first
        | ((with_reducible refine gate_builtin (b := .append) (xs := #[.tmp 22, .tmp 25]) rfl ?_); (at_builtin); (refine wp_append (Kd.int .u8) (w0 := w) rfl (.tmp 22) (.tmp 25) 24 5 (.int .u8 0) 1 rfl Try.underlying24 info5 rfl (by decide) (by omega) ((x : Int)) [.int .u8 (x : Int)] HS.out rfl rfl rfl (by repeat (first | (with_reducible first | exact HB.out | apply below_alloc | apply pw_below_drewN | apply below_drew1) | exact HB.out)) (by have := HOL.out; omega) ?_); (intro v_ w_ F_ hs_ hb_); (obtain ⟨O1, hy_⟩ : ∃ y_, y_ = O ++ [(x : Int)] := ⟨_, rfl⟩; rw [← hy_] at hs_; have HO1 := Aside0.mk hy_; clear hy_ HB HS; have HB := Aside0.mk hb_; have HS := Aside0.mk hs_; clear hs_ hb_; obtain ⟨A_, c_, e_⟩ := Kd.R_slice (Sep.R HS.out); subst e_); (skip)))
      go_ret
      refine ⟨_, rfl, ?_, HB.out⟩
      have := HI.out.2.2
      rw [varint_small HX.out, ← HO1.out] at this
      rw [← this]
      exact Kd.R_mono (Sep.R HS.out) (fun _ _ => trivial)
    · have hk : gk ≠ 0 := by rintro rfl; have := HI.out.1; simp at this; omega
      obtain ⟨k1, rfl⟩ : ∃ m, gk = m + 1 := ⟨gk - 1, by omega⟩
      have hb1 : decide (128 ≤ (x : Int)) = true := decide_eq_true (by omega)
      have hor := or_128 x
      obtain ⟨y, hy⟩ : ∃ y : Int, y = ((x % 128 + 128 : Nat) : Int) := ⟨_, rfl⟩
      rw [← hy] at hor
      have HY := Aside0.mk hy
      have HX := Aside0.mk hx
      clear hx hk hy
      go_wp2_with (first
        | ((with_reducible refine gate_builtin (b := .append) (xs := #[.tmp 16, .tmp 20]) rfl ?_); (at_builtin); (refine wp_append (Kd.int .u8) (w0 := w) rfl (.tmp 16) (.tmp 20) 24 5 (.int .u8 0) 1 rfl Try.underlying24 info5 rfl (by decide) (by omega) (y) [.int .u8 y] HS.out rfl rfl rfl (by repeat (first | (with_reducible first | exact HB.out | apply below_alloc | apply pw_below_drewN | apply below_drew1) | exact HB.out)) (by have := HOL.out; omega) ?_); (intro v_ w_ F_ hs_ hb_); (obtain ⟨O1, hy_⟩ : ∃ y_, y_ = O ++ [y] := ⟨_, rfl⟩; rw [← hy_] at hs_; have HO1 := Aside0.mk hy_; clear hy_ HB HS; have HB := Aside0.mk hb_; have HS := Aside0.mk hs_; clear hs_ hb_; obtain ⟨A_, c_, e_⟩ := Kd.R_slice (Sep.R HS.out); subst e_); (skip)))
      go_roundg k1
      case measure => omega
      case rel => exact ⟨x / 128, O1, _, (by first | rfl | simp), ⟨by have := HI.out.1; rw [Nat.pow_succ] at this; exact Nat.div_lt_of_lt_mul (by omega), by rw [HO1.out, List.length_append, List.length_singleton]; have := HI.out; omega, by rw [← HI.out.2.2, HO1.out, varint_big HX.out, HY.out, List.append_assoc]; rfl⟩, HS, HB⟩
theorem oput_nil (n : Nat) (w : World) (hn : n < 2 ^ 64) :
    Calls Try.prog 65 #[.slice none 0 0, .int .u64 (n : Int)] w fun e w' => ∃ v, e = .returned v ∧ Kd.R (Kd.int .u8) 5 w' w.heap.size (fun _ => True) v (varint n) ∧ Below w.heap.size w w' :=
  oput_calls none 0 [] n w (Kd.C_nil _ _) (by decide) hn
theorem varint_le (k : Nat) : ∀ n : Nat, n < 128 ^ (k + 1) → 1 ≤ (varint n).length ∧ (varint n).length ≤ k + 1 := by
  induction k with
  | zero =>
    intro n h
    rw [varint_small (by simpa using h)]
    simp
  | succ k ih =>
    intro n h
    by_cases hs : n < 128
    · rw [varint_small hs]; simp
    · rw [varint_big hs]
      have := ih (n / 128) (by rw [Nat.pow_succ] at h; exact Nat.div_lt_of_lt_mul (by omega))
      simp only [List.length_cons]
      omega
end Go.Proofs.Ythkpnnbjcendcaa.Sc
