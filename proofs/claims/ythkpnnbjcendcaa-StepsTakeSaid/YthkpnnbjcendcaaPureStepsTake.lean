/- StepsTake as a plain statement: the walk has shown it, for all that may come. -/
import Derived.Test.YthkpnnbjcendcaaXStStepsTake
namespace Go.Proofs.Ythkpnnbjcendcaa.Pure
open Go.RowKit Go.Proofs.Ythkpnnbjcendcaa.X Go.Proofs.YthkpnnbjcendcaaW.PrintWords Go.Proofs.YthkpnnbjcendcaaW.PrintLast

theorem StepsTake : marigraphlaw04_StepsTake.Pure := fun _ h0 h1 => if_pos ⟨h0, h1⟩

end Go.Proofs.Ythkpnnbjcendcaa.Pure
