/- The plain statement of BitsStill, over numbers and lists. -/
import Derived.Test.YthkpnnbjcendcaaBst
namespace Go.Proofs.Ythkpnnbjcendcaa.X
open Go.RowKit Go.Proofs.YthkpnnbjcendcaaW.PrintWords Go.Proofs.YthkpnnbjcendcaaW.PrintLast
def marigraphlaw02_BitsStill.Pure : Prop := ∀ (l0 : List (S34)) (a1_0 : Int) (a1_1 : Int), l0.length * 16 ≤ 140737488351232 → (∀ y ∈ l0, (Lit.int .u64 y.f0).wf = true ∧ (Lit.int .i64 y.f1).wf = true) → (Lit.int .u64 a1_0).wf = true → (Lit.int .i64 a1_1).wf = true → marigraphlaw02_BitsStill.f l0 a1_0 a1_1 = some true
end Go.Proofs.Ythkpnnbjcendcaa.X
