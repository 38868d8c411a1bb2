/- Contracts in the print's own form, for what the print does not tell: octs.Put, seal.Sum, Put of points (both), the reference's Right of chunks. -/
import Derived.Test.YthkpnnbjcendcaaSsuQc
import Derived.Test.YthkpnnbjcendcaaRriQc
set_option linter.unusedVariables false
open Go.RowKit Go.Proofs.Ythkpnnbjcendcaa.X Go.Proofs.Ythkpnnbjcendcaa.Pl Go.Proofs.Ythkpnnbjcendcaa.Sp Go.Proofs.Ythkpnnbjcendcaa.Pure Go.Proofs.YthkpnnbjcendcaaW.PrintWords Go.Proofs.YthkpnnbjcendcaaW.PrintLast Go.Proofs.YthkpnnbjcendcaaW.PrintMore
namespace Go.Proofs.Ythkpnnbjcendcaa.X
def octs_Put.f (l0 : List Int) (a1 : Int) : Option (List Int) := if l0.length ≤ 100000000 ∧ 0 ≤ a1 ∧ a1 < 18446744073709551616 then some (l0 ++ varint a1.toNat) else none
theorem octs_Put.calls (A0 : Option Addr) (c0 : Nat) (l0 : List Int) (a1 : Int) (r : List Int) (w : World) (hr0 : Kd.C (Kd.int .u8) w A0 l0.length l0) (hc0 : l0.length ≤ c0) (h : octs_Put.f l0 a1 = some r) :
    Calls Try.prog 65 #[.slice A0 l0.length c0, .int .u64 a1] w fun e w' => ∃ v0_ : Value, e = .returned (v0_) ∧ Kd.R (Kd.int .u8) 5 w' w.heap.size (fun _ => True) v0_ r ∧ Below w.heap.size w w' := by
  unfold octs_Put.f at h
  split at h
  case isFalse => cases h
  case isTrue hfit =>
  obtain rfl := Option.some.inj h
  obtain ⟨h1, h2, h3⟩ := hfit
  obtain ⟨n, rfl⟩ : ∃ n : Nat, a1 = (n : Int) := ⟨a1.toNat, by omega⟩
  rw [Int.toNat_natCast]
  exact Sc.oput_calls A0 c0 l0 n w hr0 h1 (by omega)
def bytB (l : List Int) : Bool := l.all fun x => decide (0 ≤ x) && decide (x ≤ 255)
theorem bytB_iff (l : List Int) : bytB l = true ↔ Byt l := by
  unfold bytB Byt
  rw [List.all_eq_true]
  simp only [Bool.and_eq_true, decide_eq_true_eq]
def seal_Sum.f (l0 : List Int) : Option Int := if l0.length < 4611686018427387904 ∧ bytB l0 = true then some (sumN l0 : Int) else none
theorem seal_Sum.calls (A0 : Option Addr) (c0 : Nat) (l0 : List Int) (r : Int) (w : World) (hr0 : Kd.C (Kd.int .u8) w A0 l0.length l0) (hc0 : l0.length ≤ c0) (h : seal_Sum.f l0 = some r) :
    Calls Try.prog 107 #[.slice A0 l0.length c0] w fun e w' => e = .returned (.int .u32 r) ∧ Below w.heap.size w w' := by
  unfold seal_Sum.f at h
  split at h
  case isFalse => cases h
  case isTrue hfit =>
  obtain rfl := Option.some.inj h
  exact Sc.sum_calls A0 c0 l0 w hr0 ((bytB_iff l0).1 hfit.2) hfit.1
def fitB (l : List S52) : Bool := l.all fun y => decide (-9223372036854775808 ≤ y.f0) && decide (y.f0 ≤ 9223372036854775807) && (decide (-9223372036854775808 ≤ y.f1) && decide (y.f1 ≤ 9223372036854775807))
theorem fitB_iff (l : List S52) : fitB l = true ↔ fitP l := by
  unfold fitB fitP fits64
  rw [List.all_eq_true]
  simp only [Bool.and_eq_true, decide_eq_true_eq]
def marigraphref09_Right.f (l0 : List S109) : Option Bool := if l0.length < 1000000000 ∧ (l0.all fun c => decide (c.f1.length < 1000000000)) = true then some (rightC l0) else none
theorem marigraphref09_Right.calls (A0 : Option Addr) (c0 : Nat) (l0 : List S109) (r : Bool) (w : World) (hr0 : Kd.C k109 w A0 l0.length l0) (hc0 : l0.length ≤ c0) (h : marigraphref09_Right.f l0 = some r) :
    Calls Try.prog 56 #[.slice A0 l0.length c0] w fun e w' => e = .returned (.bool r) ∧ Below w.heap.size w w' := by
  unfold marigraphref09_Right.f at h
  split at h
  case isFalse => cases h
  case isTrue hfit =>
  obtain rfl := Option.some.inj h
  exact Sc.rright9_calls A0 c0 l0 w hr0 hfit.1 (fun c hc => by simpa using List.all_eq_true.1 hfit.2 c hc)
end Go.Proofs.Ythkpnnbjcendcaa.X

