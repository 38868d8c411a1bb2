/- A scope whose run goes back to one label: as a loop whose measure is a number that the proof hands on. -/
import Derived.ScopeJumps
import Derived.WalkMore
import Derived.Deep.LoopGhost
namespace Go.Proofs.Ythkpnnbjcendcaa.Go_
open Go

end Go.Proofs.Ythkpnnbjcendcaa.Go_

