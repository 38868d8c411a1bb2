/- StepsSame, walked. -/
import Derived.Test.YthkpnnbjcendcaaGbQc
import Derived.Test.YthkpnnbjcendcaaSppQc
set_option linter.unusedVariables false
set_option linter.unusedSimpArgs false
open Go.RowKit Go.Proofs.Ythkpnnbjcendcaa.X Go.Proofs.Ythkpnnbjcendcaa.Pl Go.Proofs.Ythkpnnbjcendcaa.Sp Go.Proofs.Ythkpnnbjcendcaa.Sc Go.Proofs.Ythkpnnbjcendcaa.Pure Go.Proofs.YthkpnnbjcendcaaW.PrintWords Go.Proofs.YthkpnnbjcendcaaW.PrintLast Go.Proofs.YthkpnnbjcendcaaW.PrintMore
namespace Go.Proofs.Ythkpnnbjcendcaa.Sc
theorem sput_n (A0 : Option Addr) (c0 n : Nat) (l0 : List S52) (O : List Int) (q : Int) (w : World) (hn : l0.length = n) (ho : (putR l0).1 = O) (hq : (putR l0).2 = q) (hr0 : Kd.C k52 w A0 l0.length l0) (hc0 : n ≤ c0) (hl : n < 4611686018427387904) (hf : fitP l0) :
    Calls Try.prog 29 #[.slice A0 n c0] w fun e w' => ∃ v, e = .returned (.tuple #[v, .int .i64 q]) ∧ Kd.R (Kd.int .u8) 5 w' w.heap.size (fun _ => True) v O ∧ Below w.heap.size w w' := by
  subst hn
  exact sput_named A0 c0 l0 O q w ho hq hr0 hc0 hl hf
end Go.Proofs.Ythkpnnbjcendcaa.Sc
namespace Go.Proofs.Ythkpnnbjcendcaa.Pure
end Go.Proofs.Ythkpnnbjcendcaa.Pure
namespace Go.Proofs.Ythkpnnbjcendcaa.X
end Go.Proofs.Ythkpnnbjcendcaa.X

