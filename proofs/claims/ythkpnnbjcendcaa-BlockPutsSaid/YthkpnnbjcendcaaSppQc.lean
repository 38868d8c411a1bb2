/- StepsPut, walked. -/
import Derived.Test.YthkpnnbjcendcaaGcQc
import Derived.Test.YthkpnnbjcendcaaGbQc
set_option linter.unusedVariables false
set_option linter.unusedSimpArgs false
open Go.RowKit Go.Proofs.Ythkpnnbjcendcaa.X Go.Proofs.Ythkpnnbjcendcaa.Pl Go.Proofs.Ythkpnnbjcendcaa.Sp Go.Proofs.Ythkpnnbjcendcaa.Sc Go.Proofs.Ythkpnnbjcendcaa.Pure Go.Proofs.YthkpnnbjcendcaaW.PrintWords Go.Proofs.YthkpnnbjcendcaaW.PrintLast Go.Proofs.YthkpnnbjcendcaaW.PrintMore
namespace Go.Proofs.Ythkpnnbjcendcaa.Sc
theorem sput_named (A0 : Option Addr) (c0 : Nat) (l0 : List S52) (O : List Int) (q : Int) (w : World) (ho : (putR l0).1 = O) (hq : (putR l0).2 = q) (hr0 : Kd.C k52 w A0 l0.length l0) (hc0 : l0.length ≤ c0) (hl : l0.length < 4611686018427387904) (hf : fitP l0) :
    Calls Try.prog 29 #[.slice A0 l0.length c0] w fun e w' => ∃ v, e = .returned (.tuple #[v, .int .i64 q]) ∧ Kd.R (Kd.int .u8) 5 w' w.heap.size (fun _ => True) v O ∧ Below w.heap.size w w' := by
  subst ho hq
  exact sput_calls A0 c0 l0 w hr0 hc0 hl hf
theorem rput_named (A0 : Option Addr) (c0 : Nat) (l0 : List S52) (O : List Int) (q : Int) (w : World) (ho : (putR l0).1 = O) (hq : (putR l0).2 = q) (hr0 : Kd.C k52 w A0 l0.length l0) (hc0 : l0.length ≤ c0) (hl : l0.length < 4611686018427387904) :
    Calls Try.prog 31 #[.slice A0 l0.length c0] w fun e w' => ∃ v, e = .returned (.tuple #[v, .int .i64 q]) ∧ Kd.R (Kd.int .u8) 5 w' w.heap.size (fun _ => True) v O ∧ Below w.heap.size w w' := by
  subst ho hq
  exact rput_calls A0 c0 l0 w hr0 hc0 hl
end Go.Proofs.Ythkpnnbjcendcaa.Sc
namespace Go.Proofs.Ythkpnnbjcendcaa.X
end Go.Proofs.Ythkpnnbjcendcaa.X

