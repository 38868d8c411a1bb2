/- The plain statement of TurnParts, over numbers and lists. -/
import Derived.Test.YtjkpdjadbeidnaaT11
namespace Go.Proofs.Ytjkpdjadbeidnaa.T
open Go.RowKit Go.Proofs.YtjkpdjadbeidnaaW.PrintWords Go.Proofs.YtjkpdjadbeidnaaW.PrintLast
def marigraphlaw13_TurnParts.Pure : Prop := ∀ (l0 : List (S33)) (a1 : Int) (a2 : Int), l0.length * 16 ≤ 140737488351232 → (∀ y ∈ l0, (Lit.int .i64 y.f0).wf = true ∧ (Lit.int .i64 y.f1).wf = true) → (Lit.int .u32 a1).wf = true → (Lit.int .u16 a2).wf = true → ∃ k, marigraphlaw13_TurnParts.f k l0 a1 a2 = some true
end Go.Proofs.Ytjkpdjadbeidnaa.T
