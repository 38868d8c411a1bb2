/- The plain statement of StepsSeconds, over numbers and lists. -/
import Derived.Test.YthkpnnbjcendcaaSsc
namespace Go.Proofs.Ythkpnnbjcendcaa.X
open Go.RowKit Go.Proofs.YthkpnnbjcendcaaW.PrintWords Go.Proofs.YthkpnnbjcendcaaW.PrintLast
def marigraphlaw04_StepsSeconds.Pure : Prop := ∀ (l0 : List Int), l0.length * 8 ≤ 140737488351232 → (∀ y ∈ l0, (Lit.int .i64 y).wf = true) → marigraphlaw04_StepsSeconds.f l0 = some true
end Go.Proofs.Ythkpnnbjcendcaa.X
