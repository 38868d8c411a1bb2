/- BlockRanges as a plain statement: the walk has shown it, for all that may come. -/
import Derived.Test.YthkpnnbjcendcaaXStBlockRangesQb
namespace Go.Proofs.Ythkpnnbjcendcaa.Pure
open Go.RowKit Go.Proofs.Ythkpnnbjcendcaa.X Go.Proofs.YthkpnnbjcendcaaW.PrintWords Go.Proofs.YthkpnnbjcendcaaW.PrintLast

theorem BlockRanges : marigraphlaw09_BlockRanges.Pure := fun _ _ _ _ _ h0 h1 h2 h3 h4 h5 => if_pos ⟨h0, h1, h2, h3, h4, h5⟩

end Go.Proofs.Ythkpnnbjcendcaa.Pure

