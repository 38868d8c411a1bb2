/- The plain statement of AggWhole, over numbers and lists. -/
import Derived.Test.YtjkpdjadbeidnaaX37
namespace Go.Proofs.Ytjkpdjadbeidnaa.X
open Go.RowKit Go.Proofs.YtjkpdjadbeidnaaW.PrintWords Go.Proofs.YtjkpdjadbeidnaaW.PrintLast
def marigraphlaw12_AggWhole.Pure : Prop := ∀ (l0 : List (S33)) (a1 : Int) (a2 : Int) (a3 : Int), l0.length * 16 ≤ 140737488351232 → (∀ y ∈ l0, (Lit.int .i64 y.f0).wf = true ∧ (Lit.int .i64 y.f1).wf = true) → (Lit.int .i64 a1).wf = true → (Lit.int .i64 a2).wf = true → (Lit.int .i64 a3).wf = true → ∃ k, marigraphlaw12_AggWhole.f k l0 a1 a2 a3 = some true
end Go.Proofs.Ytjkpdjadbeidnaa.X
