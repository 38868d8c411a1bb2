/- The plain statement of BlockSpan, over numbers and lists. -/
import Derived.Test.YtckcplmjnpgegaaX8
namespace Go.Proofs.Ytckcplmjnpgegaa.X
open Go.RowKit Go.Proofs.YtckcplmjnpgegaaW.PrintWords Go.Proofs.YtckcplmjnpgegaaW.PrintLast
def marigraphlaw09_BlockSpan.Pure : Prop := ∀ (l0 : List (S33)) (a1 : Int) (a2 : Int), l0.length * 16 ≤ 140737488351232 → (∀ y ∈ l0, (Lit.int .i64 y.f0).wf = true ∧ (Lit.int .i64 y.f1).wf = true) → (Lit.int .i64 a1).wf = true → (Lit.int .i64 a2).wf = true → ∃ k, marigraphlaw09_BlockSpan.f k l0 a1 a2 = some true
end Go.Proofs.Ytckcplmjnpgegaa.X
