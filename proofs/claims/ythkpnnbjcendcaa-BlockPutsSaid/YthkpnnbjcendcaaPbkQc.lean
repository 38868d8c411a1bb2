/- What was put is there: the bits of numbers put one behind the other. -/
import Derived.Test.YthkpnnbjcendcaaGaQc
set_option linter.unusedVariables false
open Go.RowKit Go.Proofs.Ythkpnnbjcendcaa.X Go.Proofs.Ythkpnnbjcendcaa.Pl Go.Proofs.YthkpnnbjcendcaaW.PrintWords Go.Proofs.YthkpnnbjcendcaaW.PrintLast Go.Proofs.YthkpnnbjcendcaaW.PrintMore
namespace Go.Proofs.Ythkpnnbjcendcaa.Pure
theorem byt_pack (L : List Bool) : Byt (pack L) := by
  intro x hx
  unfold pack at hx
  obtain ⟨i, _, rfl⟩ := List.mem_map.1 hx
  have := byteOf_lt (fun j => L.getD (8 * i + j) false)
  omega
end Go.Proofs.Ythkpnnbjcendcaa.Pure

