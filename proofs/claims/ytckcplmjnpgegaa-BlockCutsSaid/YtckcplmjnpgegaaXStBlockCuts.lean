/- The plain statement of BlockCuts, over numbers and lists. -/
import Derived.Test.YtckcplmjnpgegaaX7
namespace Go.Proofs.Ytckcplmjnpgegaa.X
open Go.RowKit Go.Proofs.YtckcplmjnpgegaaW.PrintWords Go.Proofs.YtckcplmjnpgegaaW.PrintLast
def marigraphlaw09_BlockCuts.Pure : Prop := ∀ (l0 : List (S33)) (a1 : Int), l0.length * 16 ≤ 140737488351232 → (∀ y ∈ l0, (Lit.int .i64 y.f0).wf = true ∧ (Lit.int .i64 y.f1).wf = true) → (Lit.int .i64 a1).wf = true → ∃ k, marigraphlaw09_BlockCuts.f k l0 a1 = some true
end Go.Proofs.Ytckcplmjnpgegaa.X
