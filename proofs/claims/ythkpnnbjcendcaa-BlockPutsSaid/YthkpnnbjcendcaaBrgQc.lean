/- block.Range, walked: its function values, IndexFunc, DeleteFunc. -/
import Derived.Test.YthkpnnbjcendcaaGbQc
import Derived.Test.YthkpnnbjcendcaaX72Qc
import Derived.Shelf.Abstract
set_option linter.unusedVariables false
set_option linter.unusedSimpArgs false
open Go.RowKit Go.Proofs.Ythkpnnbjcendcaa.X Go.Proofs.Ythkpnnbjcendcaa.Pl Go.Proofs.Ythkpnnbjcendcaa.Sp Go.Proofs.Ythkpnnbjcendcaa.Pure Go.Proofs.YthkpnnbjcendcaaW.PrintWords Go.Proofs.YthkpnnbjcendcaaW.PrintLast Go.Proofs.YthkpnnbjcendcaaW.PrintMore
namespace Go.Proofs.Ythkpnnbjcendcaa.Pure
/-- The first place at which p holds, or -1. -/
def idxI {α : Type} (p : α → Bool) (l : List α) : Int := match l.findIdx? p with
  | none => -1
  | some i => (i : Int)
/-- A test's answer, as a fact that no simp turns. -/
def IsB (p b : Bool) : Prop := p = b
/-- A point within the times. -/
def inR (fr tl : Int) (p : S52) : Bool := !(decide (p.f0 < fr) || decide (tl < p.f0))
end Go.Proofs.Ythkpnnbjcendcaa.Pure
namespace Go.Proofs.Ythkpnnbjcendcaa.Sc
end Go.Proofs.Ythkpnnbjcendcaa.Sc

