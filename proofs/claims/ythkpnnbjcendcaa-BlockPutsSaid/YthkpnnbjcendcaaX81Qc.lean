-- By xprint.py, out of the translation's own print. Lean checks it.
import Derived.Test.YthkpnnbjcendcaaX0Qc
import Derived.Test.YthkpnnbjcendcaaXaQc
namespace Go.Proofs.Ythkpnnbjcendcaa.X
open Go.RowKit Go.Proofs.YthkpnnbjcendcaaW.PrintWords Go.Proofs.YthkpnnbjcendcaaW.PrintLast Go.Proofs.YthkpnnbjcendcaaW.PrintMore
attribute [local go_sem] max2_int min2_int max_two min_two max_three min_three max_four min_four   -- for this text's walks alone
set_option linter.unusedVariables false
set_option linter.unusedSimpArgs false

/-! ### marigraphref09_Same: function 50 -/
def marigraphref09_Same.l0 : Nat → List (S109) → List (S109) → Int → Option (Bool)
  | 0, _, _, _ => none
  | k + 1, x0, x1, x5 => if x5 < (x0.length : Int) then (if 0 ≤ x5 then (if x5 < (x1.length : Int) then (if ((rd_T109 x0 x5).f0) = ((rd_T109 x1 x5).f0) then ((marigraphref04_Same.f k ((rd_T109 x0 x5).f1) ((rd_T109 x1 x5).f1)).bind fun t292 => (if t292 = true then (marigraphref09_Same.l0 k x0 x1 (wrap64 (x5 + 1))) else (some false))) else (some false)) else (none)) else (none)) else (some true)
def marigraphref09_Same.f (k : Nat) (l0 : List (S109)) (l1 : List (S109)) : Option (Bool) := if (l0.length : Int) = (l1.length : Int) then (marigraphref09_Same.l0 k l0 l1 0) else (some false)
theorem marigraphref09_Same.mono_l : ∀ k, (∀ y0 y1 y2, LeO (marigraphref09_Same.l0 k y0 y1 y2) (marigraphref09_Same.l0 (k + 1) y0 y1 y2))
  | 0 => fun _ _ _ r h => by simp [marigraphref09_Same.l0] at h
  | k + 1 => by
    have ih0 := marigraphref09_Same.mono_l k
    · intro y0 y1 y2
      unfold marigraphref09_Same.l0
      repeat' first
      | (with_reducible exact ih0 _ _ _)
      | (with_reducible exact marigraphref04_Same.mono _ _ _)
      | (with_reducible exact LeO.refl _)
      | (with_reducible exact LeO.none _)
      | (with_reducible refine LeO.ite ?_ ?_)
      | (with_reducible refine LeO.bind ?_ (fun _ => ?_))
      | exact ih0 _ _ _
      | exact marigraphref04_Same.mono _ _ _
      | exact LeO.none _
      | refine LeO.ite ?_ ?_
      | refine LeO.bind ?_ (fun _ => ?_)
theorem marigraphref09_Same.mono : ∀ a0 a1 k, LeO (marigraphref09_Same.f k a0 a1) (marigraphref09_Same.f (k + 1) a0 a1) := by
  intro a0 a1 k
  have ih0 := marigraphref09_Same.mono_l k
  unfold marigraphref09_Same.f
  repeat' first
      | (with_reducible exact ih0 _ _ _)
      | (with_reducible exact marigraphref04_Same.mono _ _ _)
      | (with_reducible exact LeO.refl _)
      | (with_reducible exact LeO.none _)
      | (with_reducible refine LeO.ite ?_ ?_)
      | (with_reducible refine LeO.bind ?_ (fun _ => ?_))
      | exact ih0 _ _ _
      | exact marigraphref04_Same.mono _ _ _
      | exact LeO.none _
      | refine LeO.ite ?_ ?_
      | refine LeO.bind ?_ (fun _ => ?_)
end Go.Proofs.Ythkpnnbjcendcaa.X

