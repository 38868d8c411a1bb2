/- The plain statement of BitsPlays, over numbers and lists. -/
import Derived.Test.YthkpnnbjcendcaaBpl
namespace Go.Proofs.Ythkpnnbjcendcaa.X
open Go.RowKit Go.Proofs.YthkpnnbjcendcaaW.PrintWords Go.Proofs.YthkpnnbjcendcaaW.PrintLast
def marigraphlaw02_BitsPlays.Pure : Prop := ∀ (l0 : List (S34)), l0.length * 16 ≤ 140737488351232 → (∀ y ∈ l0, (Lit.int .u64 y.f0).wf = true ∧ (Lit.int .i64 y.f1).wf = true) → marigraphlaw02_BitsPlays.f l0 = some true
end Go.Proofs.Ythkpnnbjcendcaa.X
