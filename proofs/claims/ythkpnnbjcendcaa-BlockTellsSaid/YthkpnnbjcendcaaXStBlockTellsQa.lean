/- The plain statement of BlockTells, over numbers and lists. -/
import Derived.Test.YthkpnnbjcendcaaX83Qa
namespace Go.Proofs.Ythkpnnbjcendcaa.X
open Go.RowKit Go.Proofs.YthkpnnbjcendcaaW.PrintWords Go.Proofs.YthkpnnbjcendcaaW.PrintLast
def marigraphlaw09_BlockTells.Pure : Prop := ∀ (l0 : List (S109)) (a1 : Int) (a2 : Int) (a3 : Int) (l4 : List (S52)) (a5 : Int), l0.length * 32 ≤ 140737488351232 → (∀ y ∈ l0, (Lit.int .i64 y.f0).wf = true ∧ y.f1.length * 16 ≤ 140737488351232 ∧ (∀ z ∈ y.f1, (Lit.int .i64 z.f0).wf = true ∧ (Lit.int .i64 z.f1).wf = true)) → (Lit.int .i64 a1).wf = true → (Lit.int .i64 a2).wf = true → (Lit.int .i64 a3).wf = true → l4.length * 16 ≤ 140737488351232 → (∀ y ∈ l4, (Lit.int .i64 y.f0).wf = true ∧ (Lit.int .i64 y.f1).wf = true) → (Lit.int .i64 a5).wf = true → ∃ k, marigraphlaw09_BlockTells.f k l0 a1 a2 a3 l4 a5 = some true
end Go.Proofs.Ythkpnnbjcendcaa.X

