/- Bat, X14, Bcl, Bsh, Bsw, PBi, PBp, Bt, Sp, Bc, Fw, Ppk, Rb, Rby, put together. -/
import Derived.Test.YthkpnnbjcendcaaX0Qb
import Derived.Test.YthkpnnbjcendcaaGoQb
import Derived.Test.YthkpnnbjcendcaaBpuQb
import Derived.Test.YthkpnnbjcendcaaPlQb
import Derived.Test.YthkpnnbjcendcaaXaQb
import Derived.Test.YthkpnnbjcendcaaWMoreQb
section
-- By xprint.py, over the goto as a loop; the goto is walked by Go_.wp_scope_ghost_k. Lean checks it.
namespace Go.Proofs.Ythkpnnbjcendcaa.X
open Go.RowKit Go.Proofs.YthkpnnbjcendcaaW.PrintWords Go.Proofs.YthkpnnbjcendcaaW.PrintLast Go.Proofs.YthkpnnbjcendcaaW.PrintMore
attribute [local go_sem] max2_int min2_int max_two min_two max_three min_three max_four min_four   -- for this text's walks alone
set_option linter.unusedVariables false
set_option linter.unusedSimpArgs false

/-! ### bits_At: function 25 -/
mutual
def bits_At.j0 : Nat → List Int → Int → Int → Bool → Option (Int × Int)
  | 0, _, _, _, _ => none
  | k + 1, x0, x1, x2, x14 => if x14 = true then (some (0, 20)) else (if x1 < 0 then (some (0, 2)) else (if x1 > (wrap64 ((wrap64 (8 * (x0.length : Int))) - x2)) then (some (0, 2)) else (bits_At.l0 k x0 0 x1 x2)))
def bits_At.l0 : Nat → List Int → Int → Int → Int → Option (Int × Int)
  | 0, _, _, _, _ => none
  | k + 1, x0, x8, x9, x10 => if x10 = 0 then (some (x8, 0)) else (if 0 ≤ (wrap64 (Int.tdiv x9 8)) then (if (wrap64 (Int.tdiv x9 8)) < (x0.length : Int) then (if 0 ≤ (wrap64 ((wrap64 (8 - (Int.tmod x9 8))) - (mn (wrap64 (8 - (Int.tmod x9 8))) x10))) then (if 0 ≤ (wrap64 (8 - (mn (wrap64 (8 - (Int.tmod x9 8))) x10))) then (if 0 ≤ (mn (wrap64 (8 - (Int.tmod x9 8))) x10) then (bits_At.l0 k x0 (Go.bits .or .u64 (shl .u64 x8 (mn (wrap64 (8 - (Int.tmod x9 8))) x10)) (IntKind.u64.wrap (Go.bits .and .u8 (shr .u8 (rd x0 (wrap64 (Int.tdiv x9 8))) (wrap64 ((wrap64 (8 - (Int.tmod x9 8))) - (mn (wrap64 (8 - (Int.tmod x9 8))) x10)))) (shr .u8 255 (wrap64 (8 - (mn (wrap64 (8 - (Int.tmod x9 8))) x10))))))) (wrap64 (x9 + (mn (wrap64 (8 - (Int.tmod x9 8))) x10))) (wrap64 (x10 - (mn (wrap64 (8 - (Int.tmod x9 8))) x10)))) else (none)) else (none)) else (none)) else (none)) else (none))
end
def bits_At.f (k : Nat) (l0 : List Int) (a1 : Int) (a2 : Int) : Option (Int × Int) := if a2 < 0 then (bits_At.j0 k l0 a1 a2 true) else (bits_At.j0 k l0 a1 a2 (decide (a2 > 64)))
theorem bits_At.mono_l : ∀ k, (∀ y0 y1 y2 y3, LeO (bits_At.j0 k y0 y1 y2 y3) (bits_At.j0 (k + 1) y0 y1 y2 y3)) ∧ (∀ y0 y1 y2 y3, LeO (bits_At.l0 k y0 y1 y2 y3) (bits_At.l0 (k + 1) y0 y1 y2 y3))
  | 0 => ⟨fun _ _ _ _ r h => by simp [bits_At.j0] at h, fun _ _ _ _ r h => by simp [bits_At.l0] at h⟩
  | k + 1 => by
    obtain ⟨ih0, ih1⟩ := bits_At.mono_l k
    refine ⟨?_, ?_⟩
    · intro y0 y1 y2 y3
      unfold bits_At.j0
      repeat' first
      | (with_reducible exact ih0 _ _ _ _)
      | (with_reducible exact ih1 _ _ _ _)
      | (with_reducible exact LeO.refl _)
      | (with_reducible exact LeO.none _)
      | (with_reducible refine LeO.ite ?_ ?_)
      | (with_reducible refine LeO.bind ?_ (fun _ => ?_))
      | exact ih0 _ _ _ _
      | exact ih1 _ _ _ _
      | exact LeO.none _
      | refine LeO.ite ?_ ?_
      | refine LeO.bind ?_ (fun _ => ?_)
    · intro y0 y1 y2 y3
      unfold bits_At.l0
      repeat' first
      | (with_reducible exact ih0 _ _ _ _)
      | (with_reducible exact ih1 _ _ _ _)
      | (with_reducible exact LeO.refl _)
      | (with_reducible exact LeO.none _)
      | (with_reducible refine LeO.ite ?_ ?_)
      | (with_reducible refine LeO.bind ?_ (fun _ => ?_))
      | exact ih0 _ _ _ _
      | exact ih1 _ _ _ _
      | exact LeO.none _
      | refine LeO.ite ?_ ?_
      | refine LeO.bind ?_ (fun _ => ?_)
theorem bits_At.mono : ∀ a0 a1 a2 k, LeO (bits_At.f k a0 a1 a2) (bits_At.f (k + 1) a0 a1 a2) := by
  intro a0 a1 a2 k
  obtain ⟨ih0, ih1⟩ := bits_At.mono_l k
  unfold bits_At.f
  repeat' first
      | (with_reducible exact ih0 _ _ _ _)
      | (with_reducible exact ih1 _ _ _ _)
      | (with_reducible exact LeO.refl _)
      | (with_reducible exact LeO.none _)
      | (with_reducible refine LeO.ite ?_ ?_)
      | (with_reducible refine LeO.bind ?_ (fun _ => ?_))
      | exact ih0 _ _ _ _
      | exact ih1 _ _ _ _
      | exact LeO.none _
      | refine LeO.ite ?_ ?_
      | refine LeO.bind ?_ (fun _ => ?_)
end Go.Proofs.Ythkpnnbjcendcaa.X
end
section
-- By xprint.py, out of the translation's own print. Lean checks it.
namespace Go.Proofs.Ythkpnnbjcendcaa.X
open Go.RowKit Go.Proofs.YthkpnnbjcendcaaW.PrintWords Go.Proofs.YthkpnnbjcendcaaW.PrintLast Go.Proofs.YthkpnnbjcendcaaW.PrintMore
attribute [local go_sem] max2_int min2_int max_two min_two max_three min_three max_four min_four   -- for this text's walks alone
set_option linter.unusedVariables false
set_option linter.unusedSimpArgs false

/-! ### bits_Clear: function 28 -/
def bits_Clear.l0 : Nat → List Int → Int → Option (Bool)
  | 0, _, _ => none
  | k + 1, x0, x5 => if x5 < (wrap64 (8 * (x0.length : Int))) then ((bits_At.f k x0 x5 (mn (wrap64 (8 - (Int.tmod x5 8))) (wrap64 ((wrap64 (8 * (x0.length : Int))) - x5)))).bind fun bt121 => (if bt121.1 = 0 then (bits_Clear.l0 k x0 (wrap64 (x5 + (mn (wrap64 (8 - (Int.tmod x5 8))) (wrap64 ((wrap64 (8 * (x0.length : Int))) - x5)))))) else (some false))) else (some true)
def bits_Clear.f (k : Nat) (l0 : List Int) (a1 : Int) : Option (Bool) := if a1 < 0 then (some false) else (bits_Clear.l0 k l0 a1)
theorem bits_Clear.mono_l : ∀ k, (∀ y0 y1, LeO (bits_Clear.l0 k y0 y1) (bits_Clear.l0 (k + 1) y0 y1))
  | 0 => fun _ _ r h => by simp [bits_Clear.l0] at h
  | k + 1 => by
    have ih0 := bits_Clear.mono_l k
    · intro y0 y1
      unfold bits_Clear.l0
      repeat' first
      | (with_reducible exact ih0 _ _)
      | (with_reducible exact bits_At.mono _ _ _ _)
      | (with_reducible exact LeO.refl _)
      | (with_reducible exact LeO.none _)
      | (with_reducible refine LeO.ite ?_ ?_)
      | (with_reducible refine LeO.bind ?_ (fun _ => ?_))
      | exact ih0 _ _
      | exact bits_At.mono _ _ _ _
      | exact LeO.none _
      | refine LeO.ite ?_ ?_
      | refine LeO.bind ?_ (fun _ => ?_)
theorem bits_Clear.mono : ∀ a0 a1 k, LeO (bits_Clear.f k a0 a1) (bits_Clear.f (k + 1) a0 a1) := by
  intro a0 a1 k
  have ih0 := bits_Clear.mono_l k
  unfold bits_Clear.f
  repeat' first
      | (with_reducible exact ih0 _ _)
      | (with_reducible exact bits_At.mono _ _ _ _)
      | (with_reducible exact LeO.refl _)
      | (with_reducible exact LeO.none _)
      | (with_reducible refine LeO.ite ?_ ?_)
      | (with_reducible refine LeO.bind ?_ (fun _ => ?_))
      | exact ih0 _ _
      | exact bits_At.mono _ _ _ _
      | exact LeO.none _
      | refine LeO.ite ?_ ?_
      | refine LeO.bind ?_ (fun _ => ?_)
end Go.Proofs.Ythkpnnbjcendcaa.X
end
section
-- By xprint.py, out of the translation's own print (kept under a name of its own). Lean checks it.
namespace Go.Proofs.Ythkpnnbjcendcaa.X
open Go.RowKit Go.Proofs.YthkpnnbjcendcaaW.PrintWords Go.Proofs.YthkpnnbjcendcaaW.PrintLast Go.Proofs.YthkpnnbjcendcaaW.PrintMore
attribute [local go_sem] max2_int min2_int max_two min_two max_three min_three max_four min_four   -- for this text's walks alone
set_option linter.unusedVariables false
set_option linter.unusedSimpArgs false

/-! ### slices_Clone_byte_byte: function 45 -/
def slices_Clone_byte_byte.f (l0 : List Int) : Option (List Int) := (some (([] : List Int) : List Int)).bind fun y101 => (if y101.length + l0.length < 140737488355328 then (some (y101 ++ l0)) else (none))
set_option maxHeartbeats 8000000 in
set_option maxRecDepth 100000 in
theorem slices_Clone_byte_byte.callsS (A0 : Option Addr) (c0 : Nat) (l0 : List Int) (r : List Int) (w : World) (hr0 : Kd.C (Kd.int .u8) w A0 l0.length l0) (hc0 : l0.length ≤ c0) (hnn : A0.isNone = false) (h : slices_Clone_byte_byte.f l0 = some r) :
    Calls Try.prog 62 #[.slice A0 l0.length c0] w fun e w' => ∃ v0_ : Value, e = .returned (v0_) ∧ Kd.R (Kd.int .u8) 5 w' w.heap.size (fun _ => True) v0_ r ∧ Below w.heap.size w w' := by
  have hnil := fun (w : World) (a : Option Addr) (l c : Nat) => Go.run_eql_slice_nil w 24 5 a l c Try.underlying24
  have HR0 := Aside0.mk hr0
  have HC0 := Aside0.mk hc0
  clear hr0 hc0
  have HB := Aside0.mk (Below.refl w.heap.size w)
  have H : ((some (([] : List Int) : List Int)).bind fun y101 => (if y101.length + l0.length < 140737488355328 then (some (y101 ++ l0)) else (none))) = some r := h
  clear h
  obtain ⟨y101, hy101⟩ : ∃ y_ : List Int, y_ = (([] : List Int)) := ⟨_, rfl⟩
  replace H : (if y101.length + l0.length < 140737488355328 then (some (y101 ++ l0)) else (none)) = some r := by first | (rw [hy101]; with_reducible exact H) | (have H2_ := (Option.bind_some _ _).symm.trans H; rw [hy101]; with_reducible exact H2_) | (have H2_ := (Option.bind_some _ _).symm.trans H; with_reducible exact H2_) | with_reducible exact H | (rw [hy101]; exact H) | exact H
  have Ny101 := Aside0.mk hy101
  clear hy101
  by_cases c2 : y101.length + l0.length < 140737488355328
  · rw [if_pos c2] at H
    have LMc2 := Aside0.mk c2
    clear c2
    obtain ⟨y104, hy104⟩ : ∃ y_ : List Int, y_ = (y101 ++ l0) := ⟨_, rfl⟩
    replace H : (some y104) = some r := by first | (rw [hy104]; with_reducible exact H) | (have H2_ := (Option.bind_some _ _).symm.trans H; rw [hy104]; with_reducible exact H2_) | (have H2_ := (Option.bind_some _ _).symm.trans H; with_reducible exact H2_) | with_reducible exact H | (rw [hy104]; exact H) | exact H
    have Ny104 := Aside0.mk hy104
    clear hy104
    obtain rfl := Option.some.inj H
    go_enter Try.func62, Try.ntmps62
    go_wp2_with (first | ((with_reducible refine gate_dst (N := 5) rfl ?_); refine Kd.R_lit (Kd.int .u8) _ 5 ?hg (N := 5) ?hd (xs := ([] : List Int)) (inner := []) (ok := fun _ => True) (okp := fun _ => True) ?hr ?hp (fun _ hk => hk) trivial (Below.refl _ _) (Nat.le_refl _) (by simp) ?_; (case hd => rfl); (case hg => rfl); (case hr => first | (go_simp; done) | (go_simp; rfl)); (case hp => exact (Reps.none _ _)); intro v102 w3 ho4 hb hg_ hnew_; clear hg_ hnew_; (first | rw [← Ny101.out] at ho4 | (simp only [Int.reduceToNat] at ho4; rw [← Ny101.out] at ho4)); have n0_ := Aside0.mk (Kd.R_lower ho4 (below_size (by repeat (first | (with_reducible first | exact HB.out | apply below_alloc | apply pw_below_drewN | apply below_drew1) | exact HB.out)))); have n1_ := Aside0.mk (below_step (by repeat (first | (with_reducible first | exact HB.out | apply below_alloc | apply pw_below_drewN | apply below_drew1) | exact HB.out)) hb); clear HB; have HO103 := n0_; have HB := n1_; clear n0_ n1_; clear hb ho4) | ((with_reducible refine gate_builtin (b := .append) (xs := #[.tmp 5, .tmp 6]) rfl ?_); at_builtin; refine Kd.R_append_rows (Kd.int .u8) (w0 := w) w.heap.size rfl (.tmp 5) (.tmp 6) 24 5 (.int .u8 0) 1 rfl Try.underlying24 info5 rfl (by decide) (by omega) v102 y101 l0 _ _ _ (fun _ => True) (fun _ => False) rfl rfl ?aO ?aR (fun _ _ h => h) (fun _ h => h.elim) ?aF ?aB ?aS ?aL ?_; (case aR => repeat (first | exact (Kd.C_below HR0.out HB.out) | (with_reducible refine Kd.C_alloc ?_ _) | (with_reducible refine Kd.C_drewN ?_ _) | (with_reducible refine Kd.C_drew ?_))); (case aB => exact (by repeat (first | (with_reducible first | exact HB.out | apply below_alloc | apply pw_below_drewN | apply below_drew1) | exact HB.out))); (case aF => exact (fun _ _ => trivial)); (case aO => exact (by (with_reducible repeat (first | apply Kd.R_alloc | apply Kd.R_drewN | apply Kd.R_drew)); exact HO103.out)); (case aS => exact (below_size (by repeat (first | (with_reducible first | exact HB.out | apply below_alloc | apply pw_below_drewN | apply below_drew1) | exact HB.out)))); (case aL => have := LMc2.out; omega); intro v105 w5 ho hb hg hat; rw [← Ny104.out] at ho; have n0_ := Aside0.mk (hb); have n1_ := Aside0.mk (ho); clear HB; clear HO103; have HB := n0_; have HO106 := n1_; clear n0_ n1_; clear ho hb hg hat))
    go_ret
    exact ⟨_, by first | rfl | (simp [errW_none, errW_some] <;> rfl) | (simp [*, errW_none, errW_some] <;> rfl), by (with_reducible repeat (first | apply Kd.R_alloc | apply Kd.R_drewN | apply Kd.R_drew)); exact HO106.out, by repeat (first | (with_reducible first | exact HB.out | apply below_alloc | apply pw_below_drewN | apply below_drew1) | exact HB.out)⟩
  · rw [if_neg c2] at H
    exact absurd H (by simp)
end Go.Proofs.Ythkpnnbjcendcaa.X
end
section
/- (*bits.Bits).Len and .Bytes, with bits and with nil; .Put with nil; and the head of the laws of layer 2. -/
namespace Go.Proofs.Ythkpnnbjcendcaa.X
open Go.RowKit Go.Proofs.YthkpnnbjcendcaaW.PrintWords Go.Proofs.YthkpnnbjcendcaaW.PrintLast Go.Proofs.YthkpnnbjcendcaaW.PrintMore
attribute [local go_sem] max2_int min2_int max_two min_two max_three min_three max_four min_four
set_option linter.unusedVariables false
set_option linter.unusedSimpArgs false

end Go.Proofs.Ythkpnnbjcendcaa.X
end
section
/- The head of the laws of layer 2: it tells true. -/
namespace Go.Proofs.Ythkpnnbjcendcaa.X
open Go.RowKit Go.Proofs.YthkpnnbjcendcaaW.PrintWords Go.Proofs.YthkpnnbjcendcaaW.PrintLast Go.Proofs.YthkpnnbjcendcaaW.PrintMore
attribute [local go_sem] max2_int min2_int max_two min_two max_three min_three max_four min_four
set_option linter.unusedVariables false
set_option linter.unusedSimpArgs false

end Go.Proofs.Ythkpnnbjcendcaa.X
end
section
/- Bits of bytes: what bits.At, bits.Clear and their references tell. -/
namespace Go.Proofs.Ythkpnnbjcendcaa.Pure
open Go.RowKit Go.Proofs.Ythkpnnbjcendcaa.X Go.Proofs.Ythkpnnbjcendcaa.Pl Go.Proofs.YthkpnnbjcendcaaW.PrintWords Go.Proofs.YthkpnnbjcendcaaW.PrintLast Go.Proofs.YthkpnnbjcendcaaW.PrintMore

/-- The byte of a place, the bit of a place, so many bits from a place on. -/
def by_ (b : List Int) (p : Nat) : Nat := (b.getD (p / 8) 0).toNat
def bt (b : List Int) (p : Nat) : Nat := by_ b p / 2 ^ (7 - p % 8) % 2
def val (b : List Int) (p : Nat) : Nat → Nat
  | 0 => 0
  | w + 1 => 2 * val b p w + bt b (p + w)
def Byt (b : List Int) : Prop := ∀ x ∈ b, 0 ≤ x ∧ x ≤ 255
theorem by_rd {b : List Int} (h : Byt b) (p : Nat) (hp : p < 8 * b.length) : rd b ((p / 8 : Nat) : Int) = (by_ b p : Int) ∧ by_ b p < 256 := by
  have hlt : p / 8 < b.length := by omega
  have hm := h _ (List.getElem_mem hlt)
  have e : b.getD (p / 8) 0 = b[p / 8] := getD_lt b _ _ hlt
  unfold by_
  constructor
  · show b.getD (((p / 8 : Nat) : Int)).toNat 0 = _
    rw [Int.toNat_natCast, e]; omega
  · rw [e]; omega
/-- Within one byte. -/
theorem val_byte (b : List Int) (p : Nat) : ∀ s, p % 8 + s ≤ 8 → val b p s = by_ b p / 2 ^ (8 - p % 8 - s) % 2 ^ s
  | 0, _ => by simp [val, Nat.mod_one]
  | s + 1, h => by
    have e1 : by_ b (p + s) = by_ b p := by unfold by_; rw [show (p + s) / 8 = p / 8 by omega]
    have e2 : (p + s) % 8 = p % 8 + s := by omega
    rw [val, val_byte b p s (by omega), bt, e1, e2]
    have e3 : 8 - p % 8 - s = (7 - (p % 8 + s)) + 1 := by omega
    have e4 : 8 - p % 8 - (s + 1) = 7 - (p % 8 + s) := by omega
    rw [e3, e4, Nat.pow_succ 2 (7 - (p % 8 + s)), ← Nat.div_div_eq_div_mul, Nat.pow_succ 2 s, Nat.mul_comm (2 ^ s) 2, Nat.mod_mul]
    omega

/-! ### bits.At -/
theorem mask8 {s : Nat} (h : s ≤ 8) : (255 : Int) / 2 ^ (8 - s) = 2 ^ s - 1 := by
  rcases (by omega : s = 0 ∨ s = 1 ∨ s = 2 ∨ s = 3 ∨ s = 4 ∨ s = 5 ∨ s = 6 ∨ s = 7 ∨ s = 8) with rfl | rfl | rfl | rfl | rfl | rfl | rfl | rfl | rfl <;> decide
theorem w_u64 {n : Int} (h0 : 0 ≤ n) (h1 : n < 2 ^ 64) : IntKind.u64.wrap n = n := by
  simp only [IntKind.wrap, IntKind.signed, IntKind.bits]
  simp only [Bool.false_and, Bool.false_eq_true, if_false]
  exact Int.emod_eq_of_lt h0 h1
/-! ### The reference's -/
/-! ### Clear -/
end Go.Proofs.Ythkpnnbjcendcaa.Pure
end
section
/- What bits.Put does to bytes. -/
namespace Go.Proofs.Ythkpnnbjcendcaa.Pure
set_option linter.unusedVariables false
open Go.RowKit Go.Proofs.Ythkpnnbjcendcaa.X Go.Proofs.Ythkpnnbjcendcaa.Pl Go.Proofs.YthkpnnbjcendcaaW.PrintWords Go.Proofs.YthkpnnbjcendcaaW.PrintLast Go.Proofs.YthkpnnbjcendcaaW.PrintMore

/-- Bytes that hold so many bits, and nothing but 0s behind them. -/
structure Hold (b : List Int) (m : Nat) : Prop where
  byt : Byt b
  len : b.length = (m + 7) / 8
  max : m ≤ 262144
  zero : ∀ q, q < 8 * b.length → m ≤ q → bt b q = 0
/-- A byte of whose bits the first a are told: the others are 0. -/
theorem low_zero (x a : Nat) (ha : a ≤ 8) (hx : x < 256) (h : ∀ j, a ≤ j → j < 8 → x / 2 ^ (7 - j) % 2 = 0) : x % 2 ^ (8 - a) = 0 := by
  have : ∀ d, d ≤ 8 - a → x % 2 ^ d = 0 := by
    intro d
    induction d with
    | zero => intro _; simp [Nat.mod_one]
    | succ d ih =>
      intro hd
      have h1 := ih (by omega)
      have h2 := h (7 - d) (by omega) (by omega)
      rw [show 7 - (7 - d) = d by omega] at h2
      rw [Nat.pow_succ, Nat.mod_mul, h1, h2, Nat.mul_zero]
  exact this _ (Nat.le_refl _)
set_option synthInstance.maxSize 4000 in
set_option synthInstance.maxHeartbeats 400000 in
/-- A part laid behind the first a bits of a byte: all cases, reckoned. -/
theorem byte_all : ∀ a, a < 9 → ∀ s, s < 9 - a → ∀ X, X < 2 ^ a → ∀ v, v < 2 ^ s →
    X * 2 ^ (8 - a) ||| v * 2 ^ (8 - a - s) = X * 2 ^ (8 - a) + v * 2 ^ (8 - a - s) ∧ X * 2 ^ (8 - a) + v * 2 ^ (8 - a - s) < 256 ∧
    (∀ j, j < a → (X * 2 ^ (8 - a) + v * 2 ^ (8 - a - s)) / 2 ^ (7 - j) % 2 = X * 2 ^ (8 - a) / 2 ^ (7 - j) % 2) ∧
    (∀ j, j < s → (X * 2 ^ (8 - a) + v * 2 ^ (8 - a - s)) / 2 ^ (7 - (a + j)) % 2 = v / 2 ^ (s - 1 - j) % 2) ∧
    (∀ j, j < 8 - a - s → (X * 2 ^ (8 - a) + v * 2 ^ (8 - a - s)) / 2 ^ j % 2 = 0) := by decide +kernel
theorem bt_set (b : List Int) (i : Nat) (y : Nat) (hi : i < b.length) (q : Nat) : bt (b.set i (y : Int)) q = if q / 8 = i then y / 2 ^ (7 - q % 8) % 2 else bt b q := by
  unfold bt by_
  by_cases h : q / 8 = i
  · rw [if_pos h, h]
    simp [List.getD_eq_getElem?_getD, hi]
  · rw [if_neg h]
    simp only [List.getD_eq_getElem?_getD]
    rw [List.getElem?_set_ne (fun e => h e.symm)]
theorem bt_app (b : List Int) (q : Nat) : bt (b ++ [0]) q = bt b q := by
  unfold bt by_
  simp only [List.getD_eq_getElem?_getD]
  by_cases h : q / 8 < b.length
  · rw [List.getElem?_append_left h]
  · rw [List.getElem?_append_right (by omega), List.getElem?_eq_none (l := b) (by omega)]
    by_cases h2 : q / 8 - b.length = 0
    · rw [h2]; rfl
    · rw [List.getElem?_eq_none (by simp; omega)]
/-- The bytes with room for one bit more. -/
def room (b : List Int) (m : Nat) : List Int := if m % 8 = 0 then b ++ [0] else b
theorem room_len {b : List Int} {m : Nat} (h : Hold b m) : (room b m).length = m / 8 + 1 := by
  have := h.len
  unfold room
  split
  · rw [List.length_append, List.length_singleton]; omega
  · omega
theorem room_bt (b : List Int) (m q : Nat) : bt (room b m) q = bt b q := by
  unfold room
  split
  · exact bt_app b q
  · rfl
theorem room_byt {b : List Int} {m : Nat} (h : Hold b m) : Byt (room b m) := by
  unfold room
  split
  · intro x hx
    rcases List.mem_append.1 hx with hx | hx
    · exact h.byt x hx
    · obtain rfl := List.mem_singleton.1 hx; omega
  · exact h.byt
theorem room_zero {b : List Int} {m : Nat} (h : Hold b m) (q : Nat) (hq : m ≤ q) : bt (room b m) q = 0 := by
  rw [room_bt]
  by_cases hlt : q < 8 * b.length
  · exact h.zero q hlt hq
  · unfold bt by_
    rw [List.getD_eq_getElem?_getD, List.getElem?_eq_none (by omega)]
    simp
/-- One part laid behind. -/
theorem lay {b : List Int} {m : Nat} (h : Hold b m) (s v : Nat) (hs : m % 8 + s ≤ 8) (h1 : 1 ≤ s) (hm : m + s ≤ 262144) (hv : v < 2 ^ s) :
    ∃ y : Nat, by_ (room b m) (8 * (m / 8)) ||| v * 2 ^ (8 - m % 8 - s) = y ∧ y < 256 ∧ Hold ((room b m).set (m / 8) (y : Int)) (m + s) ∧
      (∀ q, q < m → bt ((room b m).set (m / 8) (y : Int)) q = bt b q) ∧ (∀ j, j < s → bt ((room b m).set (m / 8) (y : Int)) (m + j) = v / 2 ^ (s - 1 - j) % 2) := by
  have hlen := room_len h
  have hx := (by_rd (room_byt h) (8 * (m / 8)) (by omega)).2
  have hz : by_ (room b m) (8 * (m / 8)) % 2 ^ (8 - m % 8) = 0 := by
    refine low_zero _ _ (by omega) hx ?_
    intro j hj hj8
    have := room_zero h (8 * (m / 8) + j) (by omega)
    unfold bt by_ at this
    rw [show (8 * (m / 8) + j) / 8 = m / 8 by omega, show (8 * (m / 8) + j) % 8 = j by omega] at this
    unfold by_
    rw [show 8 * (m / 8) / 8 = m / 8 by omega]
    exact this
  obtain ⟨X, hX⟩ : ∃ X, by_ (room b m) (8 * (m / 8)) = X * 2 ^ (8 - m % 8) := ⟨_, (Nat.div_mul_cancel (Nat.dvd_of_mod_eq_zero hz)).symm⟩
  have hXlt : X < 2 ^ (m % 8) := by
    have e : 2 ^ (m % 8) * 2 ^ (8 - m % 8) = 256 := by rw [← Nat.pow_add, show m % 8 + (8 - m % 8) = 8 by omega]
    rw [hX, ← e] at hx
    exact Nat.lt_of_mul_lt_mul_right hx
  obtain ⟨b1, b2, b3, b4, b5⟩ := byte_all (m % 8) (by omega) s (by omega) X hXlt v hv
  rw [hX, b1]
  have hset := fun q => bt_set (room b m) (m / 8) (X * 2 ^ (8 - m % 8) + v * 2 ^ (8 - m % 8 - s)) (by omega) q
  generalize X * 2 ^ (8 - m % 8) + v * 2 ^ (8 - m % 8 - s) = y at *
  refine ⟨y, rfl, b2, ⟨?_, ?_, hm, ?_⟩, ?_, ?_⟩
  · intro z hz'
    rcases List.mem_or_eq_of_mem_set hz' with h' | rfl
    · exact room_byt h z h'
    · omega
  · rw [List.length_set, hlen]; omega
  · intro q hq hmq
    rw [List.length_set, hlen] at hq
    rw [hset, if_pos (by omega)]
    have := b5 (7 - q % 8) (by omega)
    exact this
  · intro q hq
    rw [hset]
    split
    · rename_i e
      rw [b3 (q % 8) (by omega), ← hX, ← room_bt b m q]
      unfold bt by_
      rw [e, show 8 * (m / 8) / 8 = m / 8 by omega]
    · exact room_bt b m q
  · intro j hj
    rw [hset, if_pos (by omega), show (m + j) % 8 = m % 8 + j by omega]
    exact b4 j hj
theorem mod_bit (t s e : Nat) (h : e < s) : t % 2 ^ s / 2 ^ e % 2 = t / 2 ^ e % 2 := by
  have e1 : 2 ^ s = 2 ^ e * 2 ^ (s - e) := by rw [← Nat.pow_add, show e + (s - e) = s by omega]
  rw [e1, Nat.mod_mul_right_div_self]
  refine Nat.mod_mod_of_dvd _ ?_
  rw [show s - e = (s - e - 1) + 1 by omega, Nat.pow_succ]
  exact Nat.dvd_mul_left 2 _
theorem part_of {n left s : Nat} (hn : n < 2 ^ 64) (hl : left ≤ 64) (hs : s ≤ left) (hs8 : s ≤ 8) :
    Go.bits .and .u8 ((shr .u64 (n : Int) ((left - s : Nat) : Int)) % 256) (shr .u8 255 ((8 - s : Nat) : Int)) = ((n / 2 ^ (left - s) % 2 ^ s : Nat) : Int) := by
  have e1 : min ((left - s : Nat) : Int).toNat IntKind.u64.bits = left - s := by
    rw [Int.toNat_natCast]; exact Nat.min_eq_left (by show _ ≤ 64; omega)
  have e2 : min ((8 - s : Nat) : Int).toNat IntKind.u8.bits = 8 - s := by
    rw [Int.toNat_natCast]; exact Nat.min_eq_left (by show _ ≤ 8; omega)
  unfold shr
  rw [e1, e2, mask8 hs8]
  have e3 : ((n : Nat) : Int) / 2 ^ (left - s) % 256 = ((n / 2 ^ (left - s) % 256 : Nat) : Int) := by
    rw [Int.natCast_emod, Int.natCast_ediv]; simp
  have h4 : n / 2 ^ (left - s) % 256 < 2 ^ 8 := Nat.mod_lt _ (by decide)
  rw [e3, bits_mask .u8 8 (by decide) wraps_u8 s hs8 _ (Int.natCast_nonneg _) (by exact_mod_cast h4)]
  have hd : n / 2 ^ (left - s) % 256 % 2 ^ s = n / 2 ^ (left - s) % 2 ^ s := Nat.mod_mod_of_dvd _ (by
    have : (256 : Nat) = 2 ^ s * 2 ^ (8 - s) := by rw [← Nat.pow_add, show s + (8 - s) = 8 by omega]
    rw [this]; exact Nat.dvd_mul_right _ _)
  rw [← hd]
  simp
theorem or_part {x v e : Nat} (hx : x < 256) (he : e ≤ 8) (hv : v * 2 ^ e < 256) : Go.bits .or .u8 (x : Int) (shl .u8 (v : Int) ((e : Nat) : Int)) = ((x ||| v * 2 ^ e : Nat) : Int) := by
  have e1 : min ((e : Nat) : Int).toNat IntKind.u8.bits = e := by
    rw [Int.toNat_natCast]; exact Nat.min_eq_left (by show _ ≤ 8; omega)
  have hc : (v : Int) * 2 ^ e = ((v * 2 ^ e : Nat) : Int) := by simp
  unfold shl
  rw [e1, hc, wraps_u8 _ (Int.natCast_nonneg _) (by exact_mod_cast hv)]
  exact (bits_nat .u8 8 (by decide) wraps_u8 x (v * 2 ^ e) hx hv).2
/-- All parts laid behind. -/
theorem put_loop {n : Nat} (hn : n < 2 ^ 64) (left : Nat) : ∀ (b : List Int) (m : Nat), Hold b m → left ≤ 64 → m + left ≤ 262144 →
    ∃ b', Ev (fun k => bits_Bits_Put.l0 k b (m : Int) (n : Int) (left : Int)) (0, b', ((m + left : Nat) : Int)) ∧ Hold b' (m + left) ∧
      (∀ q, q < m → bt b' q = bt b q) ∧ (∀ j, j < left → bt b' (m + j) = n / 2 ^ (left - 1 - j) % 2) := by
  induction left using Nat.strongRecOn with
  | _ left ih =>
    intro b m h hl hm
    by_cases h0 : left = 0
    · subst h0
      exact ⟨b, ev_stop fun k => by rw [bits_Bits_Put.l0, if_neg (by simp)]; simp, h, fun q hq => rfl, fun j hj => absurd hj (by omega)⟩
    · have hmod : Int.tmod (m : Int) 8 = ((m % 8 : Nat) : Int) := by rw [tmod_pos (by omega)]; omega
      obtain ⟨s, hs⟩ : ∃ s : Nat, s = min (8 - m % 8) left := ⟨_, rfl⟩
      have hfree : wrap64 (8 - Int.tmod (m : Int) 8) = ((8 - m % 8 : Nat) : Int) := by rw [hmod, w64 (by omega) (by omega)]; omega
      have hmn : mn ((8 - m % 8 : Nat) : Int) (left : Int) = (s : Int) := by
        have := @mn_le ((8 - m % 8 : Nat) : Int) (left : Int)
        omega
      have hs1 : 1 ≤ s ∧ s ≤ left ∧ m % 8 + s ≤ 8 := by omega
      have hlen := room_len h
      have hv : n / 2 ^ (left - s) % 2 ^ s < 2 ^ s := Nat.mod_lt _ (Nat.two_pow_pos s)
      obtain ⟨y, hy, hy8, hh, hold, hnew⟩ := lay h s (n / 2 ^ (left - s) % 2 ^ s) hs1.2.2 hs1.1 (by omega) hv
      have hrd := by_rd (room_byt h) (8 * (m / 8)) (by omega)
      rw [show 8 * (m / 8) / 8 = m / 8 by omega] at hrd
      have hvm : n / 2 ^ (left - s) % 2 ^ s * 2 ^ (8 - m % 8 - s) < 256 := by
        have h1 : n / 2 ^ (left - s) % 2 ^ s * 2 ^ (8 - m % 8 - s) < 2 ^ s * 2 ^ (8 - m % 8 - s) := (Nat.mul_lt_mul_right (Nat.two_pow_pos _)).2 hv
        rw [← Nat.pow_add] at h1
        exact Nat.lt_of_lt_of_le h1 (Nat.pow_le_pow_right (by decide) (by omega) : _ ≤ 2 ^ 8)
      have hor := or_part (v := n / 2 ^ (left - s) % 2 ^ s) (e := 8 - m % 8 - s) hrd.2 (by omega) hvm
      rw [hy] at hor
      have hpart := part_of hn hl hs1.2.1 (show s ≤ 8 by omega)
      obtain ⟨b', hev, hh', hold', hnew'⟩ := ih (left - s) (by omega) ((room b m).set (m / 8) (y : Int)) (m + s) hh (by omega) (by omega)
      rw [show m + s + (left - s) = m + left by omega] at hev hh'
      refine ⟨b', ?_, hh', fun q hq => by rw [hold' q (by omega), hold q hq], ?_⟩
      · have key : Ev (fun k => bits_Bits_Put.l0 k ((room b m).set (wrap64 (((room b m).length : Int) - 1)).toNat (Go.bits .or .u8 (rd (room b m) (wrap64 (((room b m).length : Int) - 1))) (shl .u8 (Go.bits .and .u8 ((shr .u64 (n : Int) (wrap64 ((left : Int) - (s : Int)))) % 256) (shr .u8 255 (wrap64 (8 - (s : Int))))) (wrap64 (((8 - m % 8 : Nat) : Int) - (s : Int)))))) (wrap64 ((m : Int) + (s : Int))) (n : Int) (wrap64 ((left : Int) - (s : Int)))) (0, b', ((m + left : Nat) : Int)) := by
          rw [w64 (x := (left : Int) - (s : Int)) (by omega) (by omega), w64 (x := 8 - (s : Int)) (by omega) (by omega), w64 (x := ((8 - m % 8 : Nat) : Int) - (s : Int)) (by omega) (by omega), w64 (x := (m : Int) + (s : Int)) (by omega) (by omega), w64 (x := ((room b m).length : Int) - 1) (by omega) (by omega)]
          rw [show ((left : Int) - (s : Int)) = ((left - s : Nat) : Int) by omega, show 8 - (s : Int) = ((8 - s : Nat) : Int) by omega, show ((8 - m % 8 : Nat) : Int) - (s : Int) = ((8 - m % 8 - s : Nat) : Int) by omega, show ((room b m).length : Int) - 1 = ((m / 8 : Nat) : Int) by omega, hpart, hrd.1, hor, Int.toNat_natCast, show (m : Int) + (s : Int) = ((m + s : Nat) : Int) by omega]
          exact hev
        have hz1 : 0 ≤ wrap64 ((left : Int) - (s : Int)) := by rw [w64 (by omega) (by omega)]; omega
        have hz2 : 0 ≤ wrap64 (8 - (s : Int)) := by rw [w64 (by omega) (by omega)]; omega
        have hz3 : 0 ≤ wrap64 (((room b m).length : Int) - 1) ∧ wrap64 (((room b m).length : Int) - 1) < ((room b m).length : Int) := by rw [w64 (by omega) (by omega)]; omega
        have hz4 : 0 ≤ wrap64 (((8 - m % 8 : Nat) : Int) - (s : Int)) := by rw [w64 (by omega) (by omega)]; omega
        refine ev_succ (fun k => by rw [bits_Bits_Put.l0]) ?_
        simp only [hfree, hmn]
        refine ev_pos (by omega) ?_
        by_cases hm8 : m % 8 = 0
        · have er : b ++ [0] = room b m := by unfold room; rw [if_pos hm8]
          have hbl := h.len
          refine ev_pos (by omega) (ev_pos (by omega) ?_)
          simp only [Option.bind_some, er]
          exact ev_pos hz1 (ev_pos hz2 (ev_pos hz3.1 (ev_pos hz3.2 (ev_pos hz4 key))))
        · have er : room b m = b := by unfold room; rw [if_neg hm8]
          rw [er] at key hz3
          refine ev_neg (by omega) ?_
          exact ev_pos hz1 (ev_pos hz2 (ev_pos hz3.1 (ev_pos hz3.2 (ev_pos hz4 key))))
      · intro j hj
        by_cases hjs : j < s
        · rw [hold' (m + j) (by omega), hnew j hjs, mod_bit _ _ _ (by omega), Nat.div_div_eq_div_mul, ← Nat.pow_add, show left - s + (s - 1 - j) = left - 1 - j by omega]
        · have := hnew' (j - s) (by omega)
          rw [show m + s + (j - s) = m + j by omega] at this
          rw [this, show left - s - 1 - (j - s) = left - 1 - j by omega]
/-- May a number be put, and what is told of it? -/
def putC (m : Nat) (n w : Int) : Int := if w < 0 ∨ w > 64 then 20 else if ¬ n < 2 ^ w.toNat then 1 else if (m : Int) + w > 262144 then 3 else 0
/-- The bytes are told by the bits. -/
theorem hold_ext {b c : List Int} {m : Nat} (h : Hold b m) (h' : Hold c m) (hb : ∀ q, q < m → bt b q = bt c q) : b = c := by
  have hl : b.length = c.length := by rw [h.len, h'.len]
  have hall : ∀ q, q < 8 * b.length → bt b q = bt c q := by
    intro q hq
    by_cases hm : q < m
    · exact hb q hm
    · rw [h.zero q hq (by omega), h'.zero q (by omega) (by omega)]
  refine List.ext_getElem hl ?_
  intro i hi hi'
  obtain ⟨e1, l1⟩ := by_rd h.byt (8 * i) (by omega)
  obtain ⟨e2, l2⟩ := by_rd h'.byt (8 * i) (by omega)
  have g1 : b.getD i 0 = b[i] := getD_lt b _ _ hi
  have g2 : c.getD i 0 = c[i] := getD_lt c _ _ hi'
  have hx : by_ b (8 * i) = by_ c (8 * i) := by
    have bits : ∀ j, j < 8 → by_ b (8 * i) / 2 ^ (7 - j) % 2 = by_ c (8 * i) / 2 ^ (7 - j) % 2 := by
      intro j hj
      have := hall (8 * i + j) (by omega)
      unfold bt by_ at this
      unfold by_
      rw [show (8 * i + j) / 8 = i by omega, show (8 * i + j) % 8 = j by omega] at this
      rw [show 8 * i / 8 = i by omega]
      exact this
    have b0 := bits 0 (by omega)
    have b1 := bits 1 (by omega)
    have b2 := bits 2 (by omega)
    have b3 := bits 3 (by omega)
    have b4 := bits 4 (by omega)
    have b5 := bits 5 (by omega)
    have b6 := bits 6 (by omega)
    have b7 := bits 7 (by omega)
    simp at b0 b1 b2 b3 b4 b5 b6 b7
    omega
  have m1 := h.byt _ (List.getElem_mem hi)
  have m2 := h'.byt _ (List.getElem_mem hi')
  unfold by_ at hx
  rw [show 8 * i / 8 = i by omega, g1, g2] at hx
  omega
end Go.Proofs.Ythkpnnbjcendcaa.Pure
end
section
/- Bits as a list: what bits.Put makes of it, and its bytes. -/
set_option linter.unusedVariables false
namespace Go.Proofs.Ythkpnnbjcendcaa.Pure
open Go.RowKit Go.Proofs.Ythkpnnbjcendcaa.X Go.Proofs.Ythkpnnbjcendcaa.Pl Go.Proofs.YthkpnnbjcendcaaW.PrintWords Go.Proofs.YthkpnnbjcendcaaW.PrintLast Go.Proofs.YthkpnnbjcendcaaW.PrintMore

/-- A number's lowest bits, the highest of them first. -/
def nb (n w : Nat) : List Bool := (List.range w).map fun j => decide (n / 2 ^ (w - 1 - j) % 2 = 1)
def b2 (b : Bool) : Nat := if b then 1 else 0
/-- Bytes that hold these bits. -/
def Holds (b : List Int) (L : List Bool) : Prop := Hold b L.length ∧ ∀ q, q < L.length → bt b q = b2 (L.getD q false)
/-- Put behind bits, if it may be. -/
def putL (L : List Bool) (n w : Int) : List Bool := if putC L.length n w = 0 then L ++ nb n.toNat w.toNat else L
/-- Eight bits as a byte. -/
def byteOf (f : Nat → Bool) : Nat := b2 (f 0) * 128 + b2 (f 1) * 64 + b2 (f 2) * 32 + b2 (f 3) * 16 + b2 (f 4) * 8 + b2 (f 5) * 4 + b2 (f 6) * 2 + b2 (f 7)
/-- Bits as bytes, 0s behind the last one. -/
def pack (L : List Bool) : List Int := (List.range ((L.length + 7) / 8)).map fun i => (byteOf (fun j => L.getD (8 * i + j) false) : Int)
end Go.Proofs.Ythkpnnbjcendcaa.Pure
end
section
/- Resources: blocks of one's own, apart from one another, and what is told of them; all in one fact that a walk carries. -/
set_option linter.unusedVariables false
namespace Go.Proofs.Ythkpnnbjcendcaa.Sp
open Go.RowKit Go.Proofs.YthkpnnbjcendcaaW.PrintWords Go.Proofs.YthkpnnbjcendcaaW.PrintLast Go.Proofs.YthkpnnbjcendcaaW.PrintMore

/-- A resource: its blocks, and what holds of a world. -/
structure Res where
  foot : Nat → Prop
  holds : World → Prop
/-- Its blocks are new since base and are there; what it tells holds wherever these blocks stand so. -/
structure Own (base : Nat) (w : World) (r : Res) : Prop where
  lo : ∀ k, r.foot k → base ≤ k
  hi : ∀ k, r.foot k → k < w.heap.size
  tell : ∀ w', (∀ k, r.foot k → w'.heap[k]? = w.heap[k]?) → r.holds w'
/-- All of these, apart. -/
def Sep (base : Nat) (w : World) : List Res → Prop
  | [] => True
  | r :: rs => Own base w r ∧ (∀ q ∈ rs, ∀ k, r.foot k → ¬ q.foot k) ∧ Sep base w rs
/-- All but the blocks of S, of those that were there, stands as it was. -/
def Stay (w w' : World) (S : Nat → Prop) : Prop := ∀ k, k < w.heap.size → ¬ S k → w'.heap[k]? = w.heap[k]?
theorem Stay.of_kept {w w' : World} {S : Nat → Prop} (h : Kept w w' S) : Stay w w' S := h.2
theorem Stay.of_below {w w' : World} (h : Below w.heap.size w w') (S : Nat → Prop) : Stay w w' S := fun k hk _ => h.block k hk
section
variable {base : Nat} {w w' : World} {r r' a b c d : Res} {rs rs' : List Res} {S : Nat → Prop}
theorem Own.now (h : Own base w r) : r.holds w := h.tell w (fun _ _ => rfl)
theorem Own.move (h : Own base w r) (hm : ∀ k, r.foot k → w'.heap[k]? = w.heap[k]?) : Own base w' r :=
  ⟨h.lo, fun k hk => by
    have h1 := hm k hk
    rw [Array.getElem?_eq_getElem (h.hi k hk)] at h1
    exact (Array.getElem?_eq_some_iff.1 h1).1, fun w2 h2 => h.tell w2 (fun k hk => (h2 k hk).trans (hm k hk))⟩
theorem Own.kept (h : Own base w r) (hk : Stay w w' S) (hne : ∀ k, r.foot k → ¬ S k) : Own base w' r :=
  h.move (fun k hf => hk k (h.hi k hf) (hne k hf))
theorem Own.below (h : Own base w r) (hb : Below w.heap.size w w') : Own base w' r := h.move (fun k hf => hb.block k (h.hi k hf))
theorem Own.lower {base' : Nat} (h : Own base w r) (hb : base' ≤ base) : Own base' w r := ⟨fun k hk => Nat.le_trans hb (h.lo k hk), h.hi, h.tell⟩
/-- What is told, told otherwise. -/
theorem Own.imp (h : Own base w r) (hf : r'.foot = r.foot) (ht : ∀ w', r.holds w' → r'.holds w') : Own base w r' :=
  ⟨fun k hk => h.lo k (hf ▸ hk), fun k hk => h.hi k (hf ▸ hk), fun w2 h2 => ht w2 (h.tell w2 (fun k hk => h2 k (hf ▸ hk)))⟩
theorem Sep.nil (base : Nat) (w : World) : Sep base w [] := trivial
theorem Sep.own (h : Sep base w (r :: rs)) : Own base w r := h.1
theorem Sep.now (h : Sep base w (r :: rs)) : r.holds w := h.1.now
theorem Sep.drop (h : Sep base w (r :: rs)) : Sep base w rs := h.2.2
theorem Sep.apart (h : Sep base w (r :: rs)) : ∀ q ∈ rs, ∀ k, r.foot k → ¬ q.foot k := h.2.1
theorem Sep.hi (h : Sep base w rs) : ∀ q ∈ rs, ∀ k, q.foot k → k < w.heap.size := by
  induction rs with
  | nil => intro q hq; cases hq
  | cons r rs ih =>
    intro q hq
    rcases List.mem_cons.1 hq with rfl | hq
    · exact h.1.hi
    · exact ih h.2.2 q hq
theorem Sep.lo (h : Sep base w rs) : ∀ q ∈ rs, ∀ k, q.foot k → base ≤ k := by
  induction rs with
  | nil => intro q hq; cases hq
  | cons r rs ih =>
    intro q hq
    rcases List.mem_cons.1 hq with rfl | hq
    · exact h.1.lo
    · exact ih h.2.2 q hq
theorem Sep.kept (h : Sep base w rs) (hk : Stay w w' S) (hne : ∀ q ∈ rs, ∀ k, q.foot k → ¬ S k) : Sep base w' rs := by
  induction rs with
  | nil => trivial
  | cons r rs ih => exact ⟨h.1.kept hk (hne r List.mem_cons_self), h.2.1, ih h.2.2 (fun q hq => hne q (List.mem_cons_of_mem _ hq))⟩
theorem Sep.below (h : Sep base w rs) (hb : Below w.heap.size w w') : Sep base w' rs := h.kept (Stay.of_below hb (fun _ => False)) (fun _ _ _ _ hf => hf)
/-- A call that turns the first of them. -/
theorem Sep.call (h : Sep base w (r :: rs)) (hk : Stay w w' r.foot) (ho : Own base w' r') (hf : ∀ k, r'.foot k → r.foot k ∨ w.heap.size ≤ k) : Sep base w' (r' :: rs) :=
  ⟨ho, fun q hq k hk' hq' => (hf k hk').elim (fun h1 => h.2.1 q hq k h1 hq') (fun h2 => by have := h.2.2.hi q hq k hq'; omega), h.2.2.kept hk (fun q hq k hq' hr => h.2.1 q hq k hr hq')⟩
/-- A new one. -/
theorem Sep.new (h : Sep base w rs) (hb : Below w.heap.size w w') (ho : Own base w' r) (hf : ∀ k, r.foot k → w.heap.size ≤ k) : Sep base w' (r :: rs) :=
  ⟨ho, fun q hq k hk hq' => by have := h.hi q hq k hq'; have := hf k hk; omega, h.below hb⟩
theorem sep_alloc (h : Sep base w rs) (o : Obj) : Sep base (w.alloc o) rs := h.below (below_alloc (Below.refl _ _) o)
theorem sep_drew (h : Sep base w rs) : Sep base w.drew rs := h.below (below_drew (Below.refl _ _))
theorem sep_drewN (h : Sep base w rs) (m : Nat) : Sep base (w.drewN m) rs := h.below (pw_below_drewN (Below.refl _ _) m)
theorem Sep.perm (h : Sep base w rs) (hp : rs.Perm rs') : Sep base w rs' := by
  induction hp with
  | nil => trivial
  | cons x hp ih => exact ⟨h.1, fun q hq => h.2.1 q (hp.mem_iff.2 hq), ih h.2.2⟩
  | swap x y l =>
    refine ⟨h.2.2.1 |> fun _ => h.2.2.1, ?_, h.1, ?_, h.2.2.2.2⟩
    · intro q hq k hk hq'
      rcases List.mem_cons.1 hq with rfl | hq
      · exact h.2.1 x List.mem_cons_self k hq' hk
      · exact h.2.2.2.1 q hq k hk hq'
    · exact fun q hq => h.2.1 q (List.mem_cons_of_mem _ hq)
  | trans _ _ ih1 ih2 => exact ih2 (ih1 h)
theorem Sep.p2 (h : Sep base w (a :: b :: rs)) : Sep base w (b :: a :: rs) := h.perm (List.Perm.swap _ _ _)
theorem Sep.p3 (h : Sep base w (a :: b :: c :: rs)) : Sep base w (c :: a :: b :: rs) := (h.perm ((List.Perm.swap _ _ _).cons _)).p2
theorem Sep.p4 (h : Sep base w (a :: b :: c :: d :: rs)) : Sep base w (d :: a :: b :: c :: rs) := (h.perm (((List.Perm.swap _ _ _).cons _).cons _)).p3
theorem Sep.drop2 (h : Sep base w (a :: b :: rs)) : Sep base w (a :: rs) := h.p2.drop
theorem Sep.drop4 (h : Sep base w (a :: b :: c :: d :: rs)) : Sep base w (a :: b :: c :: rs) := h.p4.drop
theorem Sep.imp (h : Sep base w (r :: rs)) (hf : r'.foot = r.foot) (ht : ∀ w', r.holds w' → r'.holds w') : Sep base w (r' :: rs) :=
  ⟨h.1.imp hf ht, fun q hq k hk => h.2.1 q hq k (hf ▸ hk), h.2.2⟩
end

/-! ### A variable in memory -/
/-- The block g is a variable's, of these cells. -/
def box (g : Nat) (cs : Array Value) (t : Nat) : Res := ⟨fun k => k = g, fun w => w.heap[g]? = some (.cells cs t (0, 0))⟩
section
variable {base g t : Nat} {cs cs' : Array Value} {w w' : World} {rs : List Res}
theorem Own.box (hb : base ≤ g) (h : w.heap[g]? = some (.cells cs t (0, 0))) : Own base w (box g cs t) :=
  ⟨fun k hk => by rw [hk]; exact hb, fun k hk => by rw [hk]; exact blk_lt h, fun w' hw => (hw g rfl).trans h⟩
theorem Sep.blk (h : Sep base w (box g cs t :: rs)) : w.heap[g]? = some (.cells cs t (0, 0)) := h.now
theorem Sep.ge (h : Sep base w (box g cs t :: rs)) : base ≤ g := h.1.lo g rfl
theorem Sep.cell (h : Sep base w (box g cs t :: rs)) (i : Nat) : w.cell? ⟨g, i, none⟩ = cs[i]? := blk_cell h.blk i
theorem Sep.free (h : Sep base w (box g cs t :: rs)) (i : Nat) : w.frozen? ⟨g, i, none⟩ = false := blk_frozen h.blk i
theorem Sep.newbox (h : Sep base w rs) (hb : Below w.heap.size w w') (hg : w.heap.size ≤ g) (hB : base ≤ w.heap.size) (hx : w'.heap[g]? = some (.cells cs t (0, 0))) : Sep base w' (Sp.box g cs t :: rs) :=
  h.new hb (Own.box (Nat.le_trans hB hg) hx) (fun k hk => by rw [hk]; exact hg)
theorem Sep.set (h : Sep base w (box g cs t :: rs)) (i : Nat) (u : Value) (e : cs.setIfInBounds i u = cs') : Sep base (w.setCell ⟨g, i, none⟩ u) (Sp.box g cs' t :: rs) := by
  have hk : Kept w (w.setCell ⟨g, i, none⟩ u) (fun k => k = g) := Kept.setCell (p := ⟨g, i, none⟩) (Kept.refl w (fun k => k = g)) (.inl rfl) u
  exact h.call (Stay.of_kept hk) (Own.box h.ge (blk_put h.blk i u e)) (fun k hk => .inl hk)
end

theorem Sep.c10 {base g t : Nat} {w : World} {rs : List Res} {x0 : Value} (h : Sep base w (box g #[x0] t :: rs)) : w.cell? ⟨g, 0, none⟩ = some x0 := (Sep.cell h 0).trans rfl
theorem Sep.c20 {base g t : Nat} {w : World} {rs : List Res} {x0 x1 : Value} (h : Sep base w (box g #[x0, x1] t :: rs)) : w.cell? ⟨g, 0, none⟩ = some x0 := (Sep.cell h 0).trans rfl
theorem Sep.c21 {base g t : Nat} {w : World} {rs : List Res} {x0 x1 : Value} (h : Sep base w (box g #[x0, x1] t :: rs)) : w.cell? ⟨g, 1, none⟩ = some x1 := (Sep.cell h 1).trans rfl
theorem Sep.c30 {base g t : Nat} {w : World} {rs : List Res} {x0 x1 x2 : Value} (h : Sep base w (box g #[x0, x1, x2] t :: rs)) : w.cell? ⟨g, 0, none⟩ = some x0 := (Sep.cell h 0).trans rfl
theorem Sep.c31 {base g t : Nat} {w : World} {rs : List Res} {x0 x1 x2 : Value} (h : Sep base w (box g #[x0, x1, x2] t :: rs)) : w.cell? ⟨g, 1, none⟩ = some x1 := (Sep.cell h 1).trans rfl
theorem Sep.c32 {base g t : Nat} {w : World} {rs : List Res} {x0 x1 x2 : Value} (h : Sep base w (box g #[x0, x1, x2] t :: rs)) : w.cell? ⟨g, 2, none⟩ = some x2 := (Sep.cell h 2).trans rfl
theorem Sep.s20 {base g t : Nat} {w : World} {rs : List Res} {x0 x1 : Value} (h : Sep base w (box g #[x0, x1] t :: rs)) (u : Value) : Sep base (w.setCell ⟨g, 0, none⟩ u) (box g #[u, x1] t :: rs) := h.set 0 u rfl
theorem Sep.s21 {base g t : Nat} {w : World} {rs : List Res} {x0 x1 : Value} (h : Sep base w (box g #[x0, x1] t :: rs)) (u : Value) : Sep base (w.setCell ⟨g, 1, none⟩ u) (box g #[x0, u] t :: rs) := h.set 1 u rfl
/-! ### What a call turns -/
/-- The resource of blocks F has become mk F', new blocks apart; all else stands as it was. -/
def Turned (w0 w w' : World) (F : Nat → Prop) (mk : (Nat → Prop) → Res) : Prop :=
  ∃ F', Own w0.heap.size w' (mk F') ∧ (∀ k, (mk F').foot k → F k ∨ w.heap.size ≤ k) ∧ Below w0.heap.size w0 w' ∧ Stay w w' F
section
variable {w0 w w' : World} {r : Res} {rs : List Res} {F : Nat → Prop} {mk : (Nat → Prop) → Res}
theorem Turned.below (h : Turned w0 w w' F mk) : Below w0.heap.size w0 w' := by obtain ⟨_, _, _, h, _⟩ := h; exact h
theorem Turned.kept (h : Turned w0 w w' F mk) : Stay w w' F := by obtain ⟨_, _, _, _, h⟩ := h; exact h
/-- Of what a contract tells of the world of the call's own begin. -/
theorem Turned.imp {mk' : (Nat → Prop) → Res} (h : Turned w0 w w' F mk) (hf : ∀ F', (mk' F').foot = (mk F').foot) (ht : ∀ F' w', (mk F').holds w' → (mk' F').holds w') : Turned w0 w w' F mk' := by
  obtain ⟨F', h1, h2, h3, h4⟩ := h
  exact ⟨F', h1.imp (hf F') (ht F'), fun k hk => h2 k (hf F' ▸ hk), h3, h4⟩
end

/-- What the caller has besides: the blocks that were there and are not F's. -/
def frameR (base : Nat) (w : World) (F : Nat → Prop) : Res := ⟨fun k => base ≤ k ∧ k < w.heap.size ∧ ¬ F k, fun w' => ∀ k, base ≤ k → k < w.heap.size → ¬ F k → w'.heap[k]? = w.heap[k]?⟩
section
variable {base : Nat} {w0 w w' : World} {r : Res} {rs : List Res} {F : Nat → Prop} {mk : (Nat → Prop) → Res}
/-- At a call's begin: what it was given, and what it was not. -/
theorem Sep.start (h : Own base w r) : Sep base w [r, frameR base w r.foot] :=
  ⟨h, fun q hq k hk hq' => by
    obtain rfl := List.mem_singleton.1 hq
    exact hq'.2.2 hk, ⟨fun _ hk => hk.1, fun _ hk => hk.2.1, fun w' hw k h1 h2 h3 => hw k ⟨h1, h2, h3⟩⟩, (fun q hq => by cases hq), trivial⟩
/-- At its end: what it has turned. -/
theorem Turned.of_sep {F' : Nat → Prop} (h : Sep w0.heap.size w' [mk F', frameR w0.heap.size w F]) (hB : Below w0.heap.size w0 w) (hB' : Below w0.heap.size w0 w') : Turned w0 w w' F mk := by
  refine ⟨F', h.own, fun k hk => ?_, hB', fun k hk hn => ?_⟩
  · by_cases hF : F k
    · exact .inl hF
    · refine .inr (Nat.le_of_not_lt fun hlt => h.apart _ (List.mem_singleton.2 rfl) k hk ⟨h.own.lo k hk, hlt, hF⟩)
  · by_cases hb : w0.heap.size ≤ k
    · exact h.drop.now k hb hk hn
    · exact (hB'.block k (by omega)).trans (hB.block k (by omega)).symm
end

/-! ### A row of one's own -/
/-- The value v is a row of one's own, its blocks among F. -/
def row {α : Type} (F : Nat → Prop) (d : Kd α) (e base : Nat) (v : Value) (xs : List α) : Res := ⟨F, fun w => d.R e w base F v xs⟩
section
variable {α : Type} {d : Kd α} {e base : Nat} {v : Value} {xs : List α} {w w' : World} {F ok : Nat → Prop} {rs : List Res}
theorem Own.row (h : d.R e w base ok v xs) : ∃ F, Own base w (row F d e base v xs) ∧ ∀ k, F k → ok k :=
  ⟨fun k => ok k ∧ base ≤ k ∧ k < w.heap.size, ⟨fun _ hk => hk.2.1, fun _ hk => hk.2.2, fun w' hw => Kd.R_move (Kd.R_mono (Kd.R_bound h) (fun k hk => ⟨hk.1, hk.2.1, hk.2.2.1⟩)) (fun k hk => hw k hk)⟩, fun _ hk => hk.1⟩
/-- A row that was made since w. -/
theorem Sep.newrow (h : Sep base w rs) (hb : Below w.heap.size w w') (hB : base ≤ w.heap.size) (hr : d.R e w' w.heap.size ok v xs) : ∃ F, Sep base w' (Sp.row F d e base v xs :: rs) := by
  obtain ⟨F, h1, _⟩ := Own.row hr
  exact ⟨F, h.new hb ((h1.lower hB).imp (r' := Sp.row F d e base v xs) rfl (fun _ hw => Kd.R_lower hw hB)) h1.lo⟩
theorem Sep.R (h : Sep base w (Sp.row F d e base v xs :: rs)) : d.R e w base F v xs := h.now
end
section
variable {α : Type} {d : Kd α} {e base : Nat} {v v1 : Value} {xs xs' : List α} {W w1 : World} {F : Nat → Prop} {rs : List Res}
/-- A row that has grown: by an append, by a store. -/
theorem Sep.grown (h : Sep base W (Sp.row F d e base v xs :: rs)) (hr : d.R e w1 base (fun k => F k ∨ W.heap.size ≤ k) v1 xs') (hg : W.grownBy w1 v.ownBlock) : ∃ F', Sep base w1 (Sp.row F' d e base v1 xs' :: rs) := by
  obtain ⟨F', h1, h2⟩ := Own.row hr
  exact ⟨F', h.call (Stay.of_kept (Kept.of_grown hg (Kept.refl W F) (fun k e => .inl (h.R.1 k e)))) h1 h2⟩
end
section
variable {P : Program} {ops : Array Oper} {rest : List Oper} {o : Oper} {a : Act} {Q : Exit → Act → World → Prop} {Kc : Act → World → Prop} {α : Type}
/-- append(v, x), the row being the first of what is apart. -/
theorem wp_append (d : Kd α) {w0 W : World} (hgd : o.guard = none) (s x : Operand) (t e : TypeId) (z : Value) (bytes : Nat)
    (ho : o.op = .call { callee := .builtin .append, args := #[s, x], argTypes := #[t, t] })
    (ht : P.underlying t = some (.slice e)) (hinfo : (P.info? e).map (fun i => (i.zero, i.size, i.bytes)) = some (some z, d.sz, bytes)) (hz : z.cells.size = d.sz) (hs0 : 0 < d.sz) (hb0 : 0 < bytes)
    {v : Value} {xs : List α} (p : α) (cs : List Value) {F : Nat → Prop} {rs : List Res} (HS : Sep w0.heap.size W (row F d e w0.heap.size v xs :: rs)) (hs : a.eval s = v) (hx : a.eval x = .slice (some ⟨W.heap.size, 0, none⟩) 1 1) (hp : d.M W w0.heap.size (fun _ => False) p cs)
    (HB : Below w0.heap.size w0 W) (hl : (xs.length + 1) * bytes ≤ 140737488355328)
    (h : ∀ v1 w1 F', Sep w0.heap.size w1 (row F' d e w0.heap.size v1 (xs ++ [p]) :: rs) → Below w0.heap.size w0 w1 → wpList P ops Q rest (a.put o.dst v1) w1) :
    wpList P ops Q (o :: rest) a (W.alloc (.cells cs.toArray e)) := by
  refine Kd.R_append d (w0 := w0) w0.heap.size hgd s x t e z bytes ho ht hinfo hz hs0 hb0 v xs p cs (fun k => F k ∨ W.heap.size ≤ k) (fun _ => False) hs hx hp (fun _ hk => hk.elim) (fun _ hk => .inr hk) (Kd.R_mono HS.R (fun _ hk => .inl hk)) HB HB.size hl ?_
  intro v1 w1 hr hb hg _
  obtain ⟨F', h1⟩ := HS.grown hr hg
  exact h v1 w1 F' h1 hb
end
section
variable {P : Program} {ops : Array Oper} {rest : List Oper} {o : Oper} {a : Act} {Q : Exit → Act → World → Prop} {α : Type}
theorem below_of_grown {W w1 : World} (hg : W.grownBy w1 none) : Below W.heap.size W w1 := ⟨hg.os, hg.tape, hg.output, hg.size, fun i hi => hg.block i hi (by simp)⟩
/-- make([]T, n). -/
theorem wp_make (d : Kd α) {w0 W : World} (hgd : o.guard = none) {N : Tmp} (hd : o.dst = some N) (t e : TypeId) (x y : Operand) (ho : o.op = .makeSlice t x y) (n : Nat)
    (ht : P.underlying t = some (.slice e)) (z : Value) (bytes : Nat) (hinfo : (P.info? e).map (fun i => (i.zero, i.size, i.bytes)) = some (some z, d.sz, bytes)) (hz : z.cells.size = d.sz) (hs0 : 0 < d.sz) (hb0 : 0 < bytes)
    (z0 : α) (hzero : d.M W w0.heap.size (fun _ => False) z0 z.cells.toList) (hl : n * bytes ≤ 281474976710656) {rs : List Res} (HS : Sep w0.heap.size W rs) (HB : Below w0.heap.size w0 W) (hx : a.eval x = .int .i64 (n : Int)) (hy : a.eval y = .int .i64 (n : Int))
    (h : ∀ A c w1 F, Sep w0.heap.size w1 (row F d e w0.heap.size (.slice A n c) (List.replicate n z0) :: rs) → Below w0.heap.size w0 w1 → wpList P ops Q rest (a.put o.dst (.slice A n c)) w1) : wpList P ops Q (o :: rest) a W := by
  refine Kd.R_make d (w0 := w0) w0.heap.size e hgd hd t x y ho (n : Int) hx hy ht z bytes hinfo hz hs0 hb0 z0 (ok := fun k => W.heap.size ≤ k) (okp := fun _ => False) hzero (fun _ hk => hk.elim) (Nat.le_refl _) (by omega) (by simpa using hl) HB HB.size ?_
  intro v1 w1 hr hb hg _
  rw [Int.toNat_natCast] at hr
  obtain ⟨A, c, rfl⟩ := Kd.R_slice hr
  rw [List.length_replicate] at hr ⊢
  obtain ⟨F, h1, h2⟩ := Own.row hr
  exact h A c w1 F (HS.new (below_of_grown hg) h1 h2) hb
end
section
variable {P : Program} {ops : Array Oper} {rest : List Oper} {o : Oper} {a : Act} {Q : Exit → Act → World → Prop} {Kc : Act → World → Prop} {α : Type}
/-- make([]T, 0, c). -/
theorem wp_makecap (d : Kd α) {w0 W : World} (hgd : o.guard = none) {N : Tmp} (hd : o.dst = some N) (t e : TypeId) (x y : Operand) (ho : o.op = .makeSlice t x y) (n : Nat)
    (ht : P.underlying t = some (.slice e)) (z : Value) (bytes : Nat) (hinfo : (P.info? e).map (fun i => (i.zero, i.size, i.bytes)) = some (some z, d.sz, bytes)) (hz : z.cells.size = d.sz) (hs0 : 0 < d.sz) (hb0 : 0 < bytes)
    (hl : n * bytes ≤ 281474976710656) {rs : List Res} (HS : Sep w0.heap.size W rs) (HB : Below w0.heap.size w0 W) (hx : a.eval x = .int .i64 0) (hy : a.eval y = .int .i64 (n : Int))
    (h : ∀ A c w1 F, Sep w0.heap.size w1 (row F d e w0.heap.size (.slice A 0 c) [] :: rs) → Below w0.heap.size w0 w1 → wpList P ops Q rest (a.put o.dst (.slice A 0 c)) w1) : wpList P ops Q (o :: rest) a W := by
  obtain ⟨i0, hi, hzz⟩ := Option.map_eq_some_iff.1 hinfo
  simp only [Prod.mk.injEq] at hzz
  obtain ⟨hz0, hz1, hz2⟩ := hzz
  have hm : n ≤ 281474976710656 := Nat.le_trans (Nat.le_mul_of_pos_right _ hb0) hl
  have hr := run_make (P := P) (w := W) t e i0 z ht hi hz0 .i64 .i64 0 (n : Int) (by omega) (by omega)
    (by
      have h3 : ((i0.bytes * n : Nat) : Int) ≤ 281474976710656 := by rw [hz2, Nat.mul_comm]; omega
      rwa [Int.natCast_mul] at h3) (by omega)
  simp only [Int.toNat_natCast] at hr
  have hR : d.R e (W.alloc (.cells (madeCells z.cells (n * i0.size)) e)) w0.heap.size (fun k => W.heap.size ≤ k) (.slice (some ⟨W.heap.size, 0, none⟩) 0 n) [] := by
    refine ⟨fun k hk => ?_, [], ⟨by simp, .inr ⟨W.heap.size, n, madeCells z.cells (n * i0.size), rfl, HB.size, blk_new W _, Nat.zero_le _, by simp only [maxLen]; omega, by rw [size_madeCells, hz1], by simp⟩⟩, ⟨by simp, fun j p hj => by simp at hj⟩⟩
    have : W.heap.size = k := by simpa [Value.ownBlock] using hk
    omega
  obtain ⟨F, h1, h2⟩ := Own.row hR
  refine Kd.event_run hgd (v := .slice (some ⟨W.heap.size, 0, none⟩) 0 n) (w1 := W.alloc (.cells (madeCells z.cells (n * i0.size)) e)) (by simp [execOp, ho, hx, hy, hr]) ?_
  exact h _ _ _ F (HS.new (below_alloc (Below.refl _ _) _) h1 h2) (HB.alloc HB.size _)
/-- append(v, ys...), the row being the first of what is apart; ys is read. -/
theorem wp_append_row (d : Kd α) {w0 W : World} (hgd : o.guard = none) (s x : Operand) (t e : TypeId) (z : Value) (bytes : Nat)
    (ho : o.op = .call { callee := .builtin .append, args := #[s, x], argTypes := #[t, t] })
    (ht : P.underlying t = some (.slice e)) (hinfo : (P.info? e).map (fun i => (i.zero, i.size, i.bytes)) = some (some z, d.sz, bytes)) (hz : z.cells.size = d.sz) (hs0 : 0 < d.sz) (hb0 : 0 < bytes)
    {v : Value} {xs : List α} (ys : List α) (A : Option Addr) (m c : Nat) {F : Nat → Prop} {rs : List Res} (HS : Sep w0.heap.size W (row F d e w0.heap.size v xs :: rs)) (HR : d.C W A m ys) (hKM : ∀ x cs, d.K W x cs → d.M W w0.heap.size (fun _ => False) x cs)
    (HB : Below w0.heap.size w0 W) (hl : (xs.length + m) * bytes ≤ 140737488355328) (hs : a.eval s = v) (hx : a.eval x = .slice A m c)
    (h : ∀ v1 w1 F', Sep w0.heap.size w1 (row F' d e w0.heap.size v1 (xs ++ ys) :: rs) → Below w0.heap.size w0 w1 → wpList P ops Q rest (a.put o.dst v1) w1) : wpList P ops Q (o :: rest) a W := by
  refine Kd.R_append_rows d (w0 := w0) w0.heap.size hgd s x t e z bytes ho ht hinfo hz hs0 hb0 v xs ys A m c (fun k => F k ∨ W.heap.size ≤ k) (fun _ => False) hs hx (Kd.R_mono HS.R (fun _ hk => .inl hk)) HR hKM (fun _ hk => hk.elim) (fun _ hk => .inr hk) HB HB.size hl ?_
  intro v1 w1 hr hb hg _
  obtain ⟨F', h1⟩ := HS.grown hr hg
  exact h v1 w1 F' h1 hb
end
section
variable {P : Program} {ops : Array Oper} {rest : List Oper} {o : Oper} {a : Act} {Q : Exit → Act → World → Prop} {α : Type}
/-- A literal '[]T{..}'. -/
theorem wp_lit (d : Kd α) {w0 W : World} (hgd : o.guard = none) {N : Tmp} (hd : o.dst = some N) (e : TypeId) (xs : List α) (inner : List Value)
    (hrun : (execOp a.eval o).run P W = .ok (.value (.slice (some ⟨W.heap.size, 0, none⟩) xs.length xs.length)) (W.alloc (.cells inner.toArray e)))
    (hrep : Reps (d.M W w0.heap.size (fun _ => False)) d.sz xs inner) {rs : List Res} (HS : Sep w0.heap.size W rs) (HB : Below w0.heap.size w0 W) (hm : xs.length ≤ 9223372036854775807)
    (h : ∀ v1 w1 F, Sep w0.heap.size w1 (row F d e w0.heap.size v1 xs :: rs) → Below w0.heap.size w0 w1 → wpList P ops Q rest (a.put o.dst v1) w1) : wpList P ops Q (o :: rest) a W := by
  refine Kd.R_lit d (w0 := w0) w0.heap.size e hgd hd (xs := xs) (inner := inner) (ok := fun k => W.heap.size ≤ k) (okp := fun _ => False) hrun hrep (fun _ hk => hk.elim) (Nat.le_refl _) HB HB.size hm ?_
  intro v1 w1 hr hb hg _
  obtain ⟨F, h1, h2⟩ := Own.row hr
  exact h v1 w1 F (HS.new (below_of_grown hg) h1 h2) hb
end
section
variable {α β : Type} {d : Kd α} {d' : Kd β} {e e' base : Nat} {v v' : Value} {xs : List α} {ys : List β} {w w' : World} {rs : List Res} {ok ok' : Nat → Prop}
/-- Two rows that a call has made. -/
theorem Sep.newrow2 (h : Sep base w rs) (hb : Below w.heap.size w w') (hB : base ≤ w.heap.size) (hE : d.E = []) (hE' : d'.E = []) (hr : d.R e w' w.heap.size (fun k => some k ≠ v'.ownBlock) v xs) (hr' : d'.R e' w' w.heap.size (fun k => some k ≠ v.ownBlock) v' ys) :
    ∃ F F', Sep base w' (Sp.row F d e base v xs :: Sp.row F' d' e' base v' ys :: rs) := by
  obtain ⟨F', h1, h2⟩ := Own.row (Kd.R_tight hE' hr')
  obtain ⟨F, h3, h4⟩ := Own.row (Kd.R_tight hE hr)
  have hs := h.new hb ((h1.lower hB).imp (r' := Sp.row F' d' e' base v' ys) rfl (fun _ hw => Kd.R_lower hw hB)) h1.lo
  refine ⟨F, F', (h3.lower hB).imp (r' := Sp.row F d e base v xs) rfl (fun _ hw => Kd.R_lower hw hB), ?_, hs⟩
  intro q hq k hk hk'
  rcases List.mem_cons.1 hq with rfl | hq
  · exact hr.1 k (h4 k hk).symm (h2 k hk')
  · have := h.hi q hq k hk'
    have := h3.lo k hk
    omega
end
end Go.Proofs.Ythkpnnbjcendcaa.Sp
end
section
/- Bits in memory, and what their calls make of them: the contracts, told by the list of bits. -/
set_option linter.unusedVariables false
namespace Go.Proofs.Ythkpnnbjcendcaa.Sc
open Go.RowKit Go.Proofs.Ythkpnnbjcendcaa.X Go.Proofs.Ythkpnnbjcendcaa.Pl Go.Proofs.Ythkpnnbjcendcaa.Sp Go.Proofs.Ythkpnnbjcendcaa.Pure Go.Proofs.YthkpnnbjcendcaaW.PrintWords Go.Proofs.YthkpnnbjcendcaaW.PrintLast Go.Proofs.YthkpnnbjcendcaaW.PrintMore

/-- The block g and a row are a list of bits (bits.Bits). -/
def bitsR (base g : Nat) (L : List Bool) (F : Nat → Prop) : Res := ⟨F, fun w => ∃ u bs, w.heap[g]? = some (.cells #[u, .int .i64 (L.length : Int)] 26 (0, 0)) ∧ Kd.R (Kd.int .u8) 5 w base (fun k => k ≠ g ∧ F k) u bs ∧ Holds bs L ∧ F g⟩
end Go.Proofs.Ythkpnnbjcendcaa.Sc
end
section
/- The laws' few: the head of a list. -/
set_option linter.unusedVariables false
set_option linter.unusedSimpArgs false
open Go.RowKit Go.Proofs.Ythkpnnbjcendcaa.X Go.Proofs.Ythkpnnbjcendcaa.Pl Go.Proofs.Ythkpnnbjcendcaa.Sp Go.Proofs.Ythkpnnbjcendcaa.Sc Go.Proofs.Ythkpnnbjcendcaa.Pure Go.Proofs.YthkpnnbjcendcaaW.PrintWords Go.Proofs.YthkpnnbjcendcaaW.PrintLast Go.Proofs.YthkpnnbjcendcaaW.PrintMore
namespace Go.Proofs.Ythkpnnbjcendcaa.Sc
end Go.Proofs.Ythkpnnbjcendcaa.Sc
end
section
/- Bits laid into bytes one by one. -/
set_option linter.unusedVariables false
open Go.RowKit Go.Proofs.Ythkpnnbjcendcaa.X Go.Proofs.Ythkpnnbjcendcaa.Pl Go.Proofs.YthkpnnbjcendcaaW.PrintWords Go.Proofs.YthkpnnbjcendcaaW.PrintLast Go.Proofs.YthkpnnbjcendcaaW.PrintMore
namespace Go.Proofs.Ythkpnnbjcendcaa.Pure
/-- The first bits, in so many bytes. -/
def packN (m : Nat) (L : List Bool) : List Int := (List.range m).map fun i => (byteOf (fun j => L.getD (8 * i + j) false) : Int)
end Go.Proofs.Ythkpnnbjcendcaa.Pure
end
section
/- The reference's bits in memory: its Put and its Bytes, told by the list of bits. -/
set_option linter.unusedVariables false
set_option linter.unusedSimpArgs false
open Go.RowKit Go.Proofs.Ythkpnnbjcendcaa.X Go.Proofs.Ythkpnnbjcendcaa.Pl Go.Proofs.Ythkpnnbjcendcaa.Sp Go.Proofs.Ythkpnnbjcendcaa.Pure Go.Proofs.YthkpnnbjcendcaaW.PrintWords Go.Proofs.YthkpnnbjcendcaaW.PrintLast Go.Proofs.YthkpnnbjcendcaaW.PrintMore
namespace Go.Proofs.Ythkpnnbjcendcaa.Sc
/-- Is a number below 2^width? -/
theorem fits_loop (w : Nat) (hw : w ≤ 64) (d : Nat) : ∀ (i n : Nat), w - i = d → i ≤ w → n < 2 ^ 64 → Ev (fun k => marigraphref02_fits.l0 k (n : Int) (w : Int) (i : Int)) (decide (n < 2 ^ d)) := by
  induction d with
  | zero =>
    intro i n hd hi hn
    refine ev_succ (fun k => by rw [marigraphref02_fits.l0]) (ev_neg (by omega) (ev_eq (Ev.now _) ?_))
    rcases Nat.eq_zero_or_pos n with rfl | h
    · simp
    · have h1 : ¬ n < 2 ^ 0 := by simp; omega
      rw [decide_eq_false h1, beq_eq_false_iff_ne]
      omega
  | succ d ih =>
    intro i n hd hi hn
    have h1 : wrap64 ((i : Int) + 1) = ((i + 1 : Nat) : Int) := by rw [w64 (by omega) (by omega)]; simp
    refine ev_succ (fun k => by rw [marigraphref02_fits.l0]) (ev_pos (by omega) ?_)
    have h2 := ih (i + 1) (n / 2) (by omega) (by omega)
    rw [h1, tdiv_pos (by omega), show (n : Int) / 2 = ((n / 2 : Nat) : Int) by omega]
    have h3 : IntKind.u64.wrap ((n / 2 : Nat) : Int) = ((n / 2 : Nat) : Int) := w_u64 (by omega) (by exact_mod_cast Nat.lt_of_le_of_lt (Nat.div_le_self n 2) hn)
    rw [h3]
    refine ev_eq (h2 (Nat.lt_of_le_of_lt (Nat.div_le_self n 2) hn)) ?_
    have : n / 2 < 2 ^ d ↔ n < 2 ^ (d + 1) := by rw [Nat.pow_succ, Nat.div_lt_iff_lt_mul (by decide)]
    simp only [this]
/-- The block g and a row are a list of bits (the reference's). -/
def refR (base g : Nat) (L : List Bool) (F : Nat → Prop) : Res := ⟨F, fun w => ∃ v, w.heap[g]? = some (.cells #[v] 30 (0, 0)) ∧ Kd.R Kd.bool 4 w base (fun k => k ≠ g ∧ F k) v L ∧ F g⟩
end Go.Proofs.Ythkpnnbjcendcaa.Sc
end
section
/- The reference's bytes of bits. -/
set_option linter.unusedVariables false
set_option linter.unusedSimpArgs false
open Go.RowKit Go.Proofs.Ythkpnnbjcendcaa.X Go.Proofs.Ythkpnnbjcendcaa.Pl Go.Proofs.Ythkpnnbjcendcaa.Sp Go.Proofs.Ythkpnnbjcendcaa.Pure Go.Proofs.YthkpnnbjcendcaaW.PrintWords Go.Proofs.YthkpnnbjcendcaaW.PrintLast Go.Proofs.YthkpnnbjcendcaaW.PrintMore
namespace Go.Proofs.Ythkpnnbjcendcaa.Sc
end Go.Proofs.Ythkpnnbjcendcaa.Sc
end

