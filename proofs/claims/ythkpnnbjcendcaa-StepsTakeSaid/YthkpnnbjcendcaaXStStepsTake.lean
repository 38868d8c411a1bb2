/- The plain statement of StepsTake, over numbers and lists. -/
import Derived.Test.YthkpnnbjcendcaaSta
namespace Go.Proofs.Ythkpnnbjcendcaa.X
open Go.RowKit Go.Proofs.YthkpnnbjcendcaaW.PrintWords Go.Proofs.YthkpnnbjcendcaaW.PrintLast
def marigraphlaw04_StepsTake.Pure : Prop := ∀ (l0 : List Int), l0.length * 1 ≤ 140737488351232 → (∀ y ∈ l0, (Lit.int .u8 y).wf = true) → marigraphlaw04_StepsTake.f l0 = some true
end Go.Proofs.Ythkpnnbjcendcaa.X
