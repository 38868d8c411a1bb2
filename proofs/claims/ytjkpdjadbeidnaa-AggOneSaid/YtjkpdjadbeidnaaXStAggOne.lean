/- The plain statement of AggOne, over numbers and lists. -/
import Derived.Test.YtjkpdjadbeidnaaX36
namespace Go.Proofs.Ytjkpdjadbeidnaa.X
open Go.RowKit Go.Proofs.YtjkpdjadbeidnaaW.PrintWords Go.Proofs.YtjkpdjadbeidnaaW.PrintLast
def marigraphlaw12_AggOne.Pure : Prop := ∀ (l0 : List (S33)), l0.length * 16 ≤ 140737488351232 → (∀ y ∈ l0, (Lit.int .i64 y.f0).wf = true ∧ (Lit.int .i64 y.f1).wf = true) → ∃ k, marigraphlaw12_AggOne.f k l0 = some true
end Go.Proofs.Ytjkpdjadbeidnaa.X
