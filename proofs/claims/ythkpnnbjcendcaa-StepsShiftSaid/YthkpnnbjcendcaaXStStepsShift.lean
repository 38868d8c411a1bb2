/- The plain statement of StepsShift, over numbers and lists. -/
import Derived.Test.YthkpnnbjcendcaaSsh
namespace Go.Proofs.Ythkpnnbjcendcaa.X
open Go.RowKit Go.Proofs.YthkpnnbjcendcaaW.PrintWords Go.Proofs.YthkpnnbjcendcaaW.PrintLast
def marigraphlaw04_StepsShift.Pure : Prop := ∀ (l0 : List Int) (a1 : Int), l0.length * 8 ≤ 140737488351232 → (∀ y ∈ l0, (Lit.int .i64 y).wf = true) → (Lit.int .i64 a1).wf = true → marigraphlaw04_StepsShift.f l0 a1 = some true
end Go.Proofs.Ythkpnnbjcendcaa.X
