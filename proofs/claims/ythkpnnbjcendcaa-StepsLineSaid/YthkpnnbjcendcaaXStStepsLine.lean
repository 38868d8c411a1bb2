/- The plain statement of StepsLine, over numbers and lists. -/
import Derived.Test.YthkpnnbjcendcaaSl
namespace Go.Proofs.Ythkpnnbjcendcaa.X
open Go.RowKit Go.Proofs.YthkpnnbjcendcaaW.PrintWords Go.Proofs.YthkpnnbjcendcaaW.PrintLast
def marigraphlaw04_StepsLine.Pure : Prop := ∀ (a0 : Int) (a1 : Int) (a2 : Int), (Lit.int .i64 a0).wf = true → (Lit.int .i64 a1).wf = true → (Lit.int .u8 a2).wf = true → marigraphlaw04_StepsLine.f a0 a1 a2 = some true
end Go.Proofs.Ythkpnnbjcendcaa.X
