/- The plain statement of BlockRanges, over numbers and lists. -/
import Derived.Test.YthkpnnbjcendcaaBrrQb
namespace Go.Proofs.Ythkpnnbjcendcaa.X
open Go.RowKit Go.Proofs.YthkpnnbjcendcaaW.PrintWords Go.Proofs.YthkpnnbjcendcaaW.PrintLast
def marigraphlaw09_BlockRanges.Pure : Prop := ∀ (l0 : List (S109)) (a1 : Int) (a2_0 : Int) (a2_1 : Int) (a2_2 : Int), l0.length * 32 ≤ 140737488351232 → (∀ y ∈ l0, (Lit.int .i64 y.f0).wf = true ∧ y.f1.length * 16 ≤ 140737488351232 ∧ (∀ z ∈ y.f1, (Lit.int .i64 z.f0).wf = true ∧ (Lit.int .i64 z.f1).wf = true)) → (Lit.int .i64 a1).wf = true → (Lit.int .i64 a2_0).wf = true → (Lit.int .i64 a2_1).wf = true → (Lit.int .i64 a2_2).wf = true → marigraphlaw09_BlockRanges.f l0 a1 a2_0 a2_1 a2_2 = some true
end Go.Proofs.Ythkpnnbjcendcaa.X

