/- The plain statement of AggShift, over numbers and lists. -/
import Derived.Test.YtjkpdjadbeidnaaX30
namespace Go.Proofs.Ytjkpdjadbeidnaa.X
open Go.RowKit Go.Proofs.YtjkpdjadbeidnaaW.PrintWords Go.Proofs.YtjkpdjadbeidnaaW.PrintLast
def marigraphlaw12_AggShift.Pure : Prop := ∀ (l0 : List (S33)) (a1 : Int) (a2 : Int) (a3 : Int), l0.length * 16 ≤ 140737488351232 → (∀ y ∈ l0, (Lit.int .i64 y.f0).wf = true ∧ (Lit.int .i64 y.f1).wf = true) → (Lit.int .u16 a1).wf = true → (Lit.int .u16 a2).wf = true → (Lit.int .u8 a3).wf = true → ∃ k, marigraphlaw12_AggShift.f k l0 a1 a2 a3 = some true
end Go.Proofs.Ytjkpdjadbeidnaa.X
