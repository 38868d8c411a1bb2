/- Open, the program's and the reference's; how many 1s stand at a place. -/
import Derived.Test.YthkpnnbjcendcaaPd
import Derived.Laws.BitsAllLaws
set_option linter.unusedVariables false
open Go.RowKit Go.Proofs.Ythkpnnbjcendcaa.X Go.Proofs.Ythkpnnbjcendcaa.Pl Go.Proofs.YthkpnnbjcendcaaW.PrintWords Go.Proofs.YthkpnnbjcendcaaW.PrintLast Go.Proofs.YthkpnnbjcendcaaW.PrintMore
namespace Go.Proofs.Ythkpnnbjcendcaa.Pure
theorem xor_i64 (a : Nat) (b : Int) : Go.bits .xor .i64 (a : Int) b = wrap64 ((BitVec.ofNat 64 a ^^^ BitVec.ofInt 64 b).toNat : Int) := by
  show IntKind.i64.wrap ((BitVec.ofInt 64 (a : Int) ^^^ BitVec.ofInt 64 b).toNat : Int) = _
  rw [BitVec.ofInt_natCast]
  exact i64_w _
theorem open_f {u : Nat} (h : u < 2 ^ 64) : octs_Open.f (u : Int) = some (openN u) := by
  have hand : Go.bits .and .u64 (u : Int) 1 = ((u % 2 : Nat) : Int) := by
    have := (bits_nat .u64 64 (by decide) (fun n h0 h1 => w_u64 h0 h1) u 1 h (by decide)).1
    rw [show (1 : Int) = ((1 : Nat) : Int) from rfl, this, Nat.and_one_is_mod]
  unfold octs_Open.f openN
  rw [hand, show ((u : Nat) : Int) / 2 = ((u / 2 : Nat) : Int) by omega, w64 (x := ((u / 2 : Nat) : Int)) (by omega) (by omega), xor_i64]
  rcases Nat.mod_two_eq_zero_or_one u with h0 | h1
  · rw [h0, if_neg (by decide), show wrap64 (-(wrap64 ((0 : Nat) : Int))) = 0 by unfold wrap64; decide, show BitVec.ofInt 64 0 = 0#64 by decide, BitVec.xor_zero, BitVec.toNat_ofNat, Nat.mod_eq_of_lt (by omega), w64 (by omega) (by omega)]
  · rw [h1, if_pos rfl, show wrap64 (-(wrap64 ((1 : Nat) : Int))) = -1 by unfold wrap64; decide, show BitVec.ofInt 64 (-1) = BitVec.allOnes 64 by decide, BitVec.xor_allOnes, BitVec.toNat_not, BitVec.toNat_ofNat, Nat.mod_eq_of_lt (by omega)]
    congr 1
    unfold wrap64
    omega
theorem ref_open_f {u : Nat} (h : u < 2 ^ 64) : marigraphref01_Open.f (u : Int) = some (openN u) := by
  unfold marigraphref01_Open.f openN
  rw [tmod_pos (by omega), tdiv_pos (by omega), show ((u : Nat) : Int) / 2 = ((u / 2 : Nat) : Int) by omega, w_u64 (n := ((u / 2 : Nat) : Int)) (by omega) (by omega), w64 (x := ((u / 2 : Nat) : Int)) (by omega) (by omega)]
  rcases Nat.mod_two_eq_zero_or_one u with h0 | h1
  · rw [if_neg (by omega), if_neg (by omega)]
  · rw [if_pos (by omega), if_pos h1, w64 (x := -((u / 2 : Nat) : Int)) (by omega) (by omega), w64 (by omega) (by omega)]
theorem ones_next {b : List Int} {p j : Nat} (h : j ≤ onesAt b p) : j < onesAt b p ↔ j < 4 ∧ p + j + 1 ≤ 8 * b.length ∧ bt b (p + j) = 1 := by
  unfold onesAt at h ⊢
  by_cases c0 : p + 1 ≤ 8 * b.length ∧ bt b p = 1
  · rw [if_neg (by simpa using c0)] at h ⊢
    by_cases c1 : p + 2 ≤ 8 * b.length ∧ bt b (p + 1) = 1
    · rw [if_neg (by simpa using c1)] at h ⊢
      by_cases c2 : p + 3 ≤ 8 * b.length ∧ bt b (p + 2) = 1
      · rw [if_neg (by simpa using c2)] at h ⊢
        by_cases c3 : p + 4 ≤ 8 * b.length ∧ bt b (p + 3) = 1
        · rw [if_neg (by simpa using c3)] at h ⊢
          rcases (by omega : j = 0 ∨ j = 1 ∨ j = 2 ∨ j = 3 ∨ j = 4) with rfl | rfl | rfl | rfl | rfl <;> simp_all
        · rw [if_pos c3] at h ⊢
          rcases (by omega : j = 0 ∨ j = 1 ∨ j = 2 ∨ j = 3) with rfl | rfl | rfl | rfl <;> simp_all [Nat.add_assoc]
      · rw [if_pos c2] at h ⊢
        rcases (by omega : j = 0 ∨ j = 1 ∨ j = 2) with rfl | rfl | rfl <;> simp_all [Nat.add_assoc]
    · rw [if_pos c1] at h ⊢
      rcases (by omega : j = 0 ∨ j = 1) with rfl | rfl <;> simp_all [Nat.add_assoc]
  · rw [if_pos c0] at h ⊢
    obtain rfl : j = 0 := by omega
    simpa using c0
end Go.Proofs.Ythkpnnbjcendcaa.Pure
