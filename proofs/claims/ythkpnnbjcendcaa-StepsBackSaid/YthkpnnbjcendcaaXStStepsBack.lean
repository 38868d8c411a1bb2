/- The plain statement of StepsBack, over numbers and lists. -/
import Derived.Test.YthkpnnbjcendcaaSbk
namespace Go.Proofs.Ythkpnnbjcendcaa.X
open Go.RowKit Go.Proofs.YthkpnnbjcendcaaW.PrintWords Go.Proofs.YthkpnnbjcendcaaW.PrintLast
def marigraphlaw04_StepsBack.Pure : Prop := ∀ (l0 : List (S52)) (l1 : List Int), l0.length * 16 ≤ 140737488351232 → (∀ y ∈ l0, (Lit.int .i64 y.f0).wf = true ∧ (Lit.int .i64 y.f1).wf = true) → l1.length * 1 ≤ 140737488351232 → (∀ y ∈ l1, (Lit.int .u8 y).wf = true) → marigraphlaw04_StepsBack.f l0 l1 = some true
end Go.Proofs.Ythkpnnbjcendcaa.X
