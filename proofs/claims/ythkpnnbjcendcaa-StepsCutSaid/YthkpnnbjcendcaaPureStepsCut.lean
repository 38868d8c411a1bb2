/- StepsCut as a plain statement: the walk has shown it, for all that may come. -/
import Derived.Test.YthkpnnbjcendcaaXStStepsCut
namespace Go.Proofs.Ythkpnnbjcendcaa.Pure
open Go.RowKit Go.Proofs.Ythkpnnbjcendcaa.X Go.Proofs.YthkpnnbjcendcaaW.PrintWords Go.Proofs.YthkpnnbjcendcaaW.PrintLast

theorem StepsCut : marigraphlaw04_StepsCut.Pure := fun _ _ _ h0 h1 h2 h3 => if_pos ⟨h0, h1, h2, h3⟩

end Go.Proofs.Ythkpnnbjcendcaa.Pure
