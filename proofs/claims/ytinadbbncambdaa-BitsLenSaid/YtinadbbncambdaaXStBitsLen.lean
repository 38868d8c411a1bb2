/- The plain statement of BitsLen, over numbers and lists. -/
import Derived.Test.YtinadbbncambdaaBln
namespace Go.Proofs.Ytinadbbncambdaa.X
open Go.RowKit Go.Proofs.YtinadbbncambdaaW.PrintWords Go.Proofs.YtinadbbncambdaaW.PrintLast
def marigraphlaw02_BitsLen.Pure : Prop := ∀ (l0 : List (S34)), l0.length * 16 ≤ 140737488351232 → (∀ y ∈ l0, (Lit.int .u64 y.f0).wf = true ∧ (Lit.int .i64 y.f1).wf = true) → ∃ k, marigraphlaw02_BitsLen.f k l0 = some true
end Go.Proofs.Ytinadbbncambdaa.X
