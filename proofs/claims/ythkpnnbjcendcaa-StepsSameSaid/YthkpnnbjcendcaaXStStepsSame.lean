/- The plain statement of StepsSame, over numbers and lists. -/
import Derived.Test.YthkpnnbjcendcaaSsm
namespace Go.Proofs.Ythkpnnbjcendcaa.X
open Go.RowKit Go.Proofs.YthkpnnbjcendcaaW.PrintWords Go.Proofs.YthkpnnbjcendcaaW.PrintLast
def marigraphlaw04_StepsSame.Pure : Prop := ∀ (a0 : Int) (a1 : Int) (a2 : Int) (a3 : Int) (a4 : Int), (Lit.int .i32 a0).wf = true → (Lit.int .i32 a1).wf = true → (Lit.int .u16 a2).wf = true → (Lit.int .i16 a3).wf = true → (Lit.int .u16 a4).wf = true → marigraphlaw04_StepsSame.f a0 a1 a2 a3 a4 = some true
end Go.Proofs.Ythkpnnbjcendcaa.X
