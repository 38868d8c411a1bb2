-- By xprint.py, out of the translation's own print. Lean checks it.
import Derived.Test.YthkpnnbjcendcaaX0Qc
import Derived.Test.YthkpnnbjcendcaaX79Qc
namespace Go.Proofs.Ythkpnnbjcendcaa.X
open Go.RowKit Go.Proofs.YthkpnnbjcendcaaW.PrintWords Go.Proofs.YthkpnnbjcendcaaW.PrintLast Go.Proofs.YthkpnnbjcendcaaW.PrintMore
attribute [local go_sem] max2_int min2_int max_two min_two max_three min_three max_four min_four   -- for this text's walks alone
set_option linter.unusedVariables false
set_option linter.unusedSimpArgs false

/-! ### marigraphref09_Range: function 49 -/
def marigraphref09_Range.l0 : Nat → List (S109) → Int → Int → Int → Int → Option ((List (S52)))
  | 0, _, _, _, _, _ => none
  | k + 1, x0, x1, x2, x3, x9 => if x9 < (x0.length : Int) then (if 0 ≤ x9 then (if ((rd_T109 x0 x9).f0) = x1 then ((marigraphref09_Within.f k ((rd_T109 x0 x9).f1) x2 x3).bind fun t285 => (some t285)) else (marigraphref09_Range.l0 k x0 x1 x2 x3 (wrap64 (x9 + 1)))) else (none)) else (some ([] : List (S52)))
def marigraphref09_Range.f (k : Nat) (l0 : List (S109)) (a1 : Int) (a2 : Int) (a3 : Int) : Option ((List (S52))) := marigraphref09_Range.l0 k l0 a1 a2 a3 0
theorem marigraphref09_Range.mono_l : ∀ k, (∀ y0 y1 y2 y3 y4, LeO (marigraphref09_Range.l0 k y0 y1 y2 y3 y4) (marigraphref09_Range.l0 (k + 1) y0 y1 y2 y3 y4))
  | 0 => fun _ _ _ _ _ r h => by simp [marigraphref09_Range.l0] at h
  | k + 1 => by
    have ih0 := marigraphref09_Range.mono_l k
    · intro y0 y1 y2 y3 y4
      unfold marigraphref09_Range.l0
      repeat' first
      | (with_reducible exact ih0 _ _ _ _ _)
      | (with_reducible exact marigraphref09_Within.mono _ _ _ _)
      | (with_reducible exact LeO.refl _)
      | (with_reducible exact LeO.none _)
      | (with_reducible refine LeO.ite ?_ ?_)
      | (with_reducible refine LeO.bind ?_ (fun _ => ?_))
      | exact ih0 _ _ _ _ _
      | exact marigraphref09_Within.mono _ _ _ _
      | exact LeO.none _
      | refine LeO.ite ?_ ?_
      | refine LeO.bind ?_ (fun _ => ?_)
theorem marigraphref09_Range.mono : ∀ a0 a1 a2 a3 k, LeO (marigraphref09_Range.f k a0 a1 a2 a3) (marigraphref09_Range.f (k + 1) a0 a1 a2 a3) := by
  intro a0 a1 a2 a3 k
  have ih0 := marigraphref09_Range.mono_l k
  unfold marigraphref09_Range.f
  repeat' first
      | (with_reducible exact ih0 _ _ _ _ _)
      | (with_reducible exact marigraphref09_Within.mono _ _ _ _)
      | (with_reducible exact LeO.refl _)
      | (with_reducible exact LeO.none _)
      | (with_reducible refine LeO.ite ?_ ?_)
      | (with_reducible refine LeO.bind ?_ (fun _ => ?_))
      | exact ih0 _ _ _ _ _
      | exact marigraphref09_Within.mono _ _ _ _
      | exact LeO.none _
      | refine LeO.ite ?_ ?_
      | refine LeO.bind ?_ (fun _ => ?_)
end Go.Proofs.Ythkpnnbjcendcaa.X

