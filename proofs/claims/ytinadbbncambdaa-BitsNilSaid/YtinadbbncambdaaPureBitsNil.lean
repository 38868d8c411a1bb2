/- BitsNil as a plain statement: nil has no bits and takes none, whatever number comes. -/
import Derived.Test.YtinadbbncambdaaXStBitsNil
namespace Go.Proofs.Ytinadbbncambdaa.Pure
open Go.RowKit Go.Proofs.Ytinadbbncambdaa.X Go.Proofs.YtinadbbncambdaaW.PrintWords Go.Proofs.YtinadbbncambdaaW.PrintLast

theorem BitsNil : marigraphlaw02_BitsNil.Pure := by
  exact fun _ _ _ _ => rfl

end Go.Proofs.Ytinadbbncambdaa.Pure
