/- The plain statement of AggParts, over numbers and lists. -/
import Derived.Test.YtjkpdjadbeidnaaX38
namespace Go.Proofs.Ytjkpdjadbeidnaa.X
open Go.RowKit Go.Proofs.YtjkpdjadbeidnaaW.PrintWords Go.Proofs.YtjkpdjadbeidnaaW.PrintLast
def marigraphlaw12_AggParts.Pure : Prop := ∀ (l0 : List (S33)) (a1 : Int) (a2 : Int), l0.length * 16 ≤ 140737488351232 → (∀ y ∈ l0, (Lit.int .i64 y.f0).wf = true ∧ (Lit.int .i64 y.f1).wf = true) → (Lit.int .u16 a1).wf = true → (Lit.int .u16 a2).wf = true → ∃ k, marigraphlaw12_AggParts.f k l0 a1 a2 = some true
end Go.Proofs.Ytjkpdjadbeidnaa.X
