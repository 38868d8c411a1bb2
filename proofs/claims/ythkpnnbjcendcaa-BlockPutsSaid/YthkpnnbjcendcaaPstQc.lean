/- Bytes as texts: which are the same. -/
import Derived.Test.YthkpnnbjcendcaaGbQc
set_option linter.unusedVariables false
open Go.RowKit Go.Proofs.Ythkpnnbjcendcaa.X Go.Proofs.Ythkpnnbjcendcaa.Pl Go.Proofs.YthkpnnbjcendcaaW.PrintWords Go.Proofs.YthkpnnbjcendcaaW.PrintLast Go.Proofs.YthkpnnbjcendcaaW.PrintMore
namespace Go.Proofs.Ythkpnnbjcendcaa.Pure
/-- Texts compared, as the model does it. -/
theorem bytes_eq {a b : ByteArray} (h : a = b) : (a.toList == b.toList) = true := by subst h; exact beq_self_eq_true _
theorem varint_byt (n : Nat) : Byt (varint n) := by
  induction n using Nat.strongRecOn with
  | _ n ih =>
    intro x hx
    by_cases h : n < 128
    · rw [varint_small h] at hx
      obtain rfl := List.mem_singleton.1 hx
      omega
    · rw [varint_big h] at hx
      rcases List.mem_cons.1 hx with rfl | hx
      · omega
      · exact ih (n / 128) (by omega) x hx
end Go.Proofs.Ythkpnnbjcendcaa.Pure

