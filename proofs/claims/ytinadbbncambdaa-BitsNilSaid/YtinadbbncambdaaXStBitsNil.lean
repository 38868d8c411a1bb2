/- The plain statement of BitsNil, over numbers and lists. -/
import Derived.Test.YtinadbbncambdaaBnl
namespace Go.Proofs.Ytinadbbncambdaa.X
open Go.RowKit Go.Proofs.YtinadbbncambdaaW.PrintWords Go.Proofs.YtinadbbncambdaaW.PrintLast
def marigraphlaw02_BitsNil.Pure : Prop := ∀ (a0_0 : Int) (a0_1 : Int), (Lit.int .u64 a0_0).wf = true → (Lit.int .i64 a0_1).wf = true → marigraphlaw02_BitsNil.f a0_0 a0_1 = some true
end Go.Proofs.Ytinadbbncambdaa.X
