/- BitsStill as a plain statement: the walk has shown it, for all that may come. -/
import Derived.Test.YthkpnnbjcendcaaXStBitsStill
namespace Go.Proofs.Ythkpnnbjcendcaa.Pure
open Go.RowKit Go.Proofs.Ythkpnnbjcendcaa.X Go.Proofs.YthkpnnbjcendcaaW.PrintWords Go.Proofs.YthkpnnbjcendcaaW.PrintLast

theorem BitsStill : marigraphlaw02_BitsStill.Pure := fun _ _ _ h1 h2 h3 h4 => if_pos ⟨h1, h2, h3, h4⟩

end Go.Proofs.Ythkpnnbjcendcaa.Pure
