/- StepsSame as a plain statement: the walk has shown it, for all that may come. -/
import Derived.Test.YthkpnnbjcendcaaXStStepsSame
namespace Go.Proofs.Ythkpnnbjcendcaa.Pure
open Go.RowKit Go.Proofs.Ythkpnnbjcendcaa.X Go.Proofs.YthkpnnbjcendcaaW.PrintWords Go.Proofs.YthkpnnbjcendcaaW.PrintLast

theorem StepsSame : marigraphlaw04_StepsSame.Pure := fun _ _ _ _ _ h0 h1 h2 h3 h4 => if_pos ⟨h0, h1, h2, h3, h4⟩

end Go.Proofs.Ythkpnnbjcendcaa.Pure
