/- The plain statement of StepsCut, over numbers and lists. -/
import Derived.Test.YthkpnnbjcendcaaSct
namespace Go.Proofs.Ythkpnnbjcendcaa.X
open Go.RowKit Go.Proofs.YthkpnnbjcendcaaW.PrintWords Go.Proofs.YthkpnnbjcendcaaW.PrintLast
def marigraphlaw04_StepsCut.Pure : Prop := ∀ (l0 : List (S52)) (a1 : Int) (a2 : Int), l0.length * 16 ≤ 140737488351232 → (∀ y ∈ l0, (Lit.int .i64 y.f0).wf = true ∧ (Lit.int .i64 y.f1).wf = true) → (Lit.int .u16 a1).wf = true → (Lit.int .u8 a2).wf = true → marigraphlaw04_StepsCut.f l0 a1 a2 = some true
end Go.Proofs.Ythkpnnbjcendcaa.X
