/- The plain statement of BlockPuts, over numbers and lists. -/
import Derived.Test.YthkpnnbjcendcaaX98Qc
namespace Go.Proofs.Ythkpnnbjcendcaa.X
open Go.RowKit Go.Proofs.YthkpnnbjcendcaaW.PrintWords Go.Proofs.YthkpnnbjcendcaaW.PrintLast
def marigraphlaw09_BlockPuts.Pure : Prop := ∀ (l0 : List (S109)), l0.length * 32 ≤ 140737488351232 → (∀ y ∈ l0, (Lit.int .i64 y.f0).wf = true ∧ y.f1.length * 16 ≤ 140737488351232 ∧ (∀ z ∈ y.f1, (Lit.int .i64 z.f0).wf = true ∧ (Lit.int .i64 z.f1).wf = true)) → ∃ k, marigraphlaw09_BlockPuts.f k l0 = some true
end Go.Proofs.Ythkpnnbjcendcaa.X

