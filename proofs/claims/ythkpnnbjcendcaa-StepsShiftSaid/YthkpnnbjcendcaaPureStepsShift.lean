/- StepsShift as a plain statement: the walk has shown it, for all that may come. -/
import Derived.Test.YthkpnnbjcendcaaXStStepsShift
namespace Go.Proofs.Ythkpnnbjcendcaa.Pure
open Go.RowKit Go.Proofs.Ythkpnnbjcendcaa.X Go.Proofs.YthkpnnbjcendcaaW.PrintWords Go.Proofs.YthkpnnbjcendcaaW.PrintLast

theorem StepsShift : marigraphlaw04_StepsShift.Pure := fun _ _ h0 h1 h2 => if_pos ⟨h0, h1, h2⟩

end Go.Proofs.Ythkpnnbjcendcaa.Pure
