/- StepsPut as a plain statement: the walk has shown it, for all that may come. -/
import Derived.Test.YthkpnnbjcendcaaXStStepsPut
namespace Go.Proofs.Ythkpnnbjcendcaa.Pure
open Go.RowKit Go.Proofs.Ythkpnnbjcendcaa.X Go.Proofs.YthkpnnbjcendcaaW.PrintWords Go.Proofs.YthkpnnbjcendcaaW.PrintLast

theorem StepsPut : marigraphlaw04_StepsPut.Pure := fun _ h0 h1 => if_pos ⟨h0, h1⟩

end Go.Proofs.Ythkpnnbjcendcaa.Pure
