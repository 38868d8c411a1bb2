/- Floats and complex numbers as the widened print tells them: their bits; what the operations give; that the walk may take it. -/
import Derived.Laws.Cover3
import Derived.Laws.ComplexArith
import Derived.Laws.FloatArith
import Derived.Laws.Entries
import Derived.WalkLawsBesides
import Derived.Test.YtjkpdjadbeidnaaWWords
set_option linter.unusedSimpArgs false
namespace Go.Proofs.Ytjkpdjadbeidnaa.Flo
open Go

structure CB where
  re : Nat
  im : Nat
@[reducible] def cv (c : CB) : Value := .complex .f64 c.re c.im
def fneg (x : Nat) : Nat := Op.negFloat .f64 x
def fadd (x y : Nat) : Nat := (floatBits .add .f64 x y).getD 0
def fok (x y : Nat) : Bool := (floatBits .add .f64 x y).isSome
def feq (x y : Nat) : Bool := FloatKind.f64.format.order x y == some .eq
def fne (x y : Nat) : Bool := FloatKind.f64.format.order x y != some .eq
def fge (x y : Nat) : Bool := FloatKind.f64.format.order x y == some .gt || FloatKind.f64.format.order x y == some .eq
def fle (x y : Nat) : Bool := FloatKind.f64.format.order x y == some .lt || FloatKind.f64.format.order x y == some .eq
def ceq (a b c d : Nat) : Bool := feq a c && feq b d
def cne (a b c d : Nat) : Bool := !(feq a c && feq b d)
def fofi (n : Int) : Nat := floatOfInt .f64 n
def ftok (x : Nat) : Bool := (floatToIntVal .f64 x .i64).isSome
def ftoi (x : Nat) : Int := (floatToIntVal .f64 x .i64).getD 0

section
variable {P : Program} (w : World)
theorem x_neg (x : Nat) : Op.unary .neg (.float .f64 x) = pure (.float .f64 (fneg x)) := rfl
theorem x_cneg (x y : Nat) : Op.unary .neg (.complex .f64 x y) = pure (.complex .f64 (fneg x) (fneg y)) := rfl
theorem x_add (t : TypeId) (x y : Nat) (h : fok x y = true) : (binOp .add t (.float .f64 x) (.float .f64 y)).run P w = .ok (.float .f64 (fadd x y)) w := by
  obtain ⟨r, hr⟩ := Option.isSome_iff_exists.1 h
  rw [run_float_arith w .add t .f64 x y r hr]
  simp [fadd, hr]
theorem x_cadd (t : TypeId) (a b c d : Nat) (h : fok a c = true) (h' : fok b d = true) : (binOp .add t (.complex .f64 a b) (.complex .f64 c d)).run P w = .ok (.complex .f64 (fadd a c) (fadd b d)) w := by
  obtain ⟨r, hr⟩ := Option.isSome_iff_exists.1 h
  obtain ⟨s, hs⟩ := Option.isSome_iff_exists.1 h'
  rw [run_complex_sum w .add (Or.inl rfl) t .f64 a b c d r s (by simp [cSumBits, hr, hs])]
  simp [fadd, hr, hs]
theorem x_eq (t : TypeId) (a b : Nat) : binOp .eql t (.float .f64 a) (.float .f64 b) = pure (.bool (feq a b)) := binOp_float_cmp_eql t .f64 a b
theorem x_ne (t : TypeId) (a b : Nat) : binOp .neq t (.float .f64 a) (.float .f64 b) = pure (.bool (fne a b)) := binOp_float_cmp_neq t .f64 a b
theorem x_ge (t : TypeId) (a b : Nat) : binOp .geq t (.float .f64 a) (.float .f64 b) = pure (.bool (fge a b)) := binOp_float_cmp_geq t .f64 a b
theorem x_le (t : TypeId) (a b : Nat) : binOp .leq t (.float .f64 a) (.float .f64 b) = pure (.bool (fle a b)) := binOp_float_cmp_leq t .f64 a b
theorem x_ceq (t : TypeId) (a b c d : Nat) : (binOp .eql t (.complex .f64 a b) (.complex .f64 c d)).run P w = .ok (.bool (ceq a b c d)) w := run_eql_complex w t .f64 a b c d
theorem x_cne (t : TypeId) (a b c d : Nat) : (binOp .neq t (.complex .f64 a b) (.complex .f64 c d)).run P w = .ok (.bool (cne a b c d)) w := run_neq_complex w t .f64 a b c d
theorem x_ofi (src dst : TypeId) (q : IntKind) (n : Int) (hs : (P.underlying src).isSome = true) (hd : P.underlying dst = some (.float .f64)) : (convert src dst (.int q n)).run P w = .ok (.float .f64 (fofi n)) w :=
  run_convert_int_float w src dst q .f64 n hs hd
theorem x_toi (src dst : TypeId) (b : Nat) (hs : (P.underlying src).isSome = true) (hd : P.underlying dst = some (.int .i64)) (h : ftok b = true) : (convert src dst (.float .f64 b)).run P w = .ok (.int .i64 (ftoi b)) w := by
  obtain ⟨r, hr⟩ := Option.isSome_iff_exists.1 h
  rw [run_convert_float_int w src dst .f64 .i64 b r hs hd hr]
  simp [ftoi, hr]
end
end Go.Proofs.Ytjkpdjadbeidnaa.Flo
