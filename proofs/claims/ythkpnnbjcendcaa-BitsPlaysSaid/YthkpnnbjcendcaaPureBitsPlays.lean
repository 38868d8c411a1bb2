/- BitsPlays as a plain statement: the walk has shown it, for all that may come. -/
import Derived.Test.YthkpnnbjcendcaaXStBitsPlays
namespace Go.Proofs.Ythkpnnbjcendcaa.Pure
open Go.RowKit Go.Proofs.Ythkpnnbjcendcaa.X Go.Proofs.YthkpnnbjcendcaaW.PrintWords Go.Proofs.YthkpnnbjcendcaaW.PrintLast

theorem BitsPlays : marigraphlaw02_BitsPlays.Pure := fun _ h0 h1 => if_pos ⟨h0, h1⟩

end Go.Proofs.Ythkpnnbjcendcaa.Pure
