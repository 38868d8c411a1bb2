/- Fold and Open, the program's and the reference's. -/
import Derived.Test.YthkpnnbjcendcaaPs
import Derived.Test.YthkpnnbjcendcaaX17
import Derived.Test.YthkpnnbjcendcaaX28
import Derived.Test.YthkpnnbjcendcaaX53
import Derived.Test.YthkpnnbjcendcaaX62
set_option linter.unusedVariables false
open Go.RowKit Go.Proofs.Ythkpnnbjcendcaa.X Go.Proofs.Ythkpnnbjcendcaa.Pl Go.Proofs.YthkpnnbjcendcaaW.PrintWords Go.Proofs.YthkpnnbjcendcaaW.PrintLast Go.Proofs.YthkpnnbjcendcaaW.PrintMore
namespace Go.Proofs.Ythkpnnbjcendcaa.Pure
theorem u64_wrap (x : Int) : IntKind.u64.wrap x = x % 18446744073709551616 := by simp [IntKind.wrap, IntKind.bits, IntKind.signed]
theorem foldN_lt {n : Int} (h : fits64 n) : foldN n < 2 ^ 64 := by
  unfold foldN
  unfold fits64 at h
  split <;> omega
theorem xor_run (a : Nat) (ha : a < 2 ^ 64) (b : Int) : Go.bits .xor .u64 (a : Int) b = ((BitVec.ofNat 64 a ^^^ BitVec.ofInt 64 b).toNat : Int) := by
  have h1 : (BitVec.ofNat 64 a ^^^ BitVec.ofInt 64 b).toNat < 2 ^ 64 := BitVec.isLt _
  show IntKind.u64.wrap ((BitVec.ofInt 64 (a : Int) ^^^ BitVec.ofInt 64 b).toNat : Int) = _
  rw [BitVec.ofInt_natCast]
  exact w_u64 (Int.natCast_nonneg _) (by exact_mod_cast h1)
theorem xor_ones (a : Nat) (ha : a < 2 ^ 64) : Go.bits .xor .u64 (a : Int) 18446744073709551615 = ((2 ^ 64 - 1 - a : Nat) : Int) := by
  rw [xor_run a ha, show BitVec.ofInt 64 18446744073709551615 = BitVec.allOnes 64 by decide, BitVec.xor_allOnes, BitVec.toNat_not, BitVec.toNat_ofNat, Nat.mod_eq_of_lt ha]
theorem xor_zero (a : Nat) (ha : a < 2 ^ 64) : Go.bits .xor .u64 (a : Int) 0 = (a : Int) := by
  rw [xor_run a ha, show BitVec.ofInt 64 0 = 0#64 by decide, BitVec.xor_zero, BitVec.toNat_ofNat, Nat.mod_eq_of_lt ha]
theorem fold_f {n : Int} (h : fits64 n) : octs_Fold.f n = some (foldN n : Int) := by
  unfold octs_Fold.f foldN
  unfold fits64 at h
  by_cases h0 : 0 ≤ n
  · rw [if_pos h0, u64_wrap, u64_wrap, u64_wrap, show n / 9223372036854775808 % 18446744073709551616 = 0 by omega, show n % 18446744073709551616 * 2 % 18446744073709551616 = (((2 * n).toNat : Nat) : Int) by omega, xor_zero _ (by omega)]
  · rw [if_neg h0, u64_wrap, u64_wrap, u64_wrap, show n / 9223372036854775808 % 18446744073709551616 = 18446744073709551615 by omega, show n % 18446744073709551616 * 2 % 18446744073709551616 = (((2 * n + 18446744073709551616).toNat : Nat) : Int) by omega, xor_ones _ (by omega)]
    congr 1
    omega
theorem ref_fold_f {n : Int} (h : fits64 n) : marigraphref01_Fold.f n = some (foldN n : Int) := by
  unfold marigraphref01_Fold.f foldN
  unfold fits64 at h
  by_cases h0 : 0 ≤ n
  · rw [if_neg (by omega), if_pos h0, u64_wrap, u64_wrap]
    congr 1
    omega
  · rw [if_pos (by omega), if_neg h0, u64_wrap, u64_wrap, u64_wrap]
    congr 1
    unfold wrap64
    omega
end Go.Proofs.Ythkpnnbjcendcaa.Pure
