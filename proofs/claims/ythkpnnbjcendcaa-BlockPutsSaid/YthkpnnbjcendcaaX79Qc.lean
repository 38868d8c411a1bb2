-- By xprint.py, out of the translation's own print. Lean checks it.
import Derived.Test.YthkpnnbjcendcaaX0Qc
namespace Go.Proofs.Ythkpnnbjcendcaa.X
open Go.RowKit Go.Proofs.YthkpnnbjcendcaaW.PrintWords Go.Proofs.YthkpnnbjcendcaaW.PrintLast Go.Proofs.YthkpnnbjcendcaaW.PrintMore
attribute [local go_sem] max2_int min2_int max_two min_two max_three min_three max_four min_four   -- for this text's walks alone
set_option linter.unusedVariables false
set_option linter.unusedSimpArgs false

/-! ### marigraphref09_Within: function 86 -/
def marigraphref09_Within.l0 : Nat → List (S52) → Int → Int → List (S52) → Int → Option ((List (S52)))
  | 0, _, _, _, _, _ => none
  | k + 1, x0, x1, x2, x7, x8 => if x8 < (x0.length : Int) then (if 0 ≤ x8 then (if ((rd_T52 x0 x8).f0) ≥ x1 then (if ((rd_T52 x0 x8).f0) ≤ x2 then (if x7.length < 8796093022208 then (marigraphref09_Within.l0 k x0 x1 x2 (x7 ++ [(⟨(rd_T52 x0 x8).f0, (rd_T52 x0 x8).f1⟩ : S52)]) (wrap64 (x8 + 1))) else (none)) else (marigraphref09_Within.l0 k x0 x1 x2 x7 (wrap64 (x8 + 1)))) else (marigraphref09_Within.l0 k x0 x1 x2 x7 (wrap64 (x8 + 1)))) else (none)) else (some x7)
def marigraphref09_Within.f (k : Nat) (l0 : List (S52)) (a1 : Int) (a2 : Int) : Option ((List (S52))) := marigraphref09_Within.l0 k l0 a1 a2 ([] : List (S52)) 0
theorem marigraphref09_Within.mono_l : ∀ k, (∀ y0 y1 y2 y3 y4, LeO (marigraphref09_Within.l0 k y0 y1 y2 y3 y4) (marigraphref09_Within.l0 (k + 1) y0 y1 y2 y3 y4))
  | 0 => fun _ _ _ _ _ r h => by simp [marigraphref09_Within.l0] at h
  | k + 1 => by
    have ih0 := marigraphref09_Within.mono_l k
    · intro y0 y1 y2 y3 y4
      unfold marigraphref09_Within.l0
      repeat' first
      | (with_reducible exact ih0 _ _ _ _ _)
      | (with_reducible exact LeO.refl _)
      | (with_reducible exact LeO.none _)
      | (with_reducible refine LeO.ite ?_ ?_)
      | (with_reducible refine LeO.bind ?_ (fun _ => ?_))
      | exact ih0 _ _ _ _ _
      | exact LeO.none _
      | refine LeO.ite ?_ ?_
      | refine LeO.bind ?_ (fun _ => ?_)
theorem marigraphref09_Within.mono : ∀ a0 a1 a2 k, LeO (marigraphref09_Within.f k a0 a1 a2) (marigraphref09_Within.f (k + 1) a0 a1 a2) := by
  intro a0 a1 a2 k
  have ih0 := marigraphref09_Within.mono_l k
  unfold marigraphref09_Within.f
  repeat' first
      | (with_reducible exact ih0 _ _ _ _ _)
      | (with_reducible exact LeO.refl _)
      | (with_reducible exact LeO.none _)
      | (with_reducible refine LeO.ite ?_ ?_)
      | (with_reducible refine LeO.bind ?_ (fun _ => ?_))
      | exact ih0 _ _ _ _ _
      | exact LeO.none _
      | refine LeO.ite ?_ ?_
      | refine LeO.bind ?_ (fun _ => ?_)
end Go.Proofs.Ythkpnnbjcendcaa.X

