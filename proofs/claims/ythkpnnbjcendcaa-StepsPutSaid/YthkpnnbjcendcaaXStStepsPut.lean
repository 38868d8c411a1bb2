/- The plain statement of StepsPut, over numbers and lists. -/
import Derived.Test.YthkpnnbjcendcaaSpp
namespace Go.Proofs.Ythkpnnbjcendcaa.X
open Go.RowKit Go.Proofs.YthkpnnbjcendcaaW.PrintWords Go.Proofs.YthkpnnbjcendcaaW.PrintLast
def marigraphlaw04_StepsPut.Pure : Prop := ∀ (l0 : List (S52)), l0.length * 16 ≤ 140737488351232 → (∀ y ∈ l0, (Lit.int .i64 y.f0).wf = true ∧ (Lit.int .i64 y.f1).wf = true) → marigraphlaw04_StepsPut.f l0 = some true
end Go.Proofs.Ythkpnnbjcendcaa.X
