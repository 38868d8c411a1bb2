-- By xprint.py, out of the translation's own print. Lean checks it.
import Derived.Test.YthkpnnbjcendcaaX0Qc
namespace Go.Proofs.Ythkpnnbjcendcaa.X
open Go.RowKit Go.Proofs.YthkpnnbjcendcaaW.PrintWords Go.Proofs.YthkpnnbjcendcaaW.PrintLast Go.Proofs.YthkpnnbjcendcaaW.PrintMore
attribute [local go_sem] max2_int min2_int max_two min_two max_three min_three max_four min_four   -- for this text's walks alone
set_option linter.unusedVariables false
set_option linter.unusedSimpArgs false

/-! ### marigraphref09_Cut: function 52 -/
def marigraphref09_Cut.l0 : Nat → Int → List (S52) → Int → List (S109) → Int → Option ((List (S109)))
  | 0, _, _, _, _, _ => none
  | k + 1, x0, x1, x2, x7, x8 => if x8 < (x1.length : Int) then (if (wrap64 ((x7.length : Int) - 1)) < 0 then (if x7.length < 4398046511104 then ((some (x7 ++ [(⟨x0, ([] : List (S52))⟩ : S109)] : List (S109))).bind fun y293 => (if 0 ≤ (wrap64 ((wrap64 ((x7.length : Int) - 1)) + 1)) then (if (wrap64 ((wrap64 ((x7.length : Int) - 1)) + 1)) < (y293.length : Int) then (if 0 ≤ x8 then (if ((rd_T109 y293 (wrap64 ((wrap64 ((x7.length : Int) - 1)) + 1))).f1).length < 8796093022208 then (marigraphref09_Cut.l0 k x0 x1 x2 (y293.set ((wrap64 ((wrap64 ((x7.length : Int) - 1)) + 1)) : Int).toNat (⟨(rd_T109 y293 (wrap64 ((wrap64 ((x7.length : Int) - 1)) + 1))).f0, (((rd_T109 y293 (wrap64 ((wrap64 ((x7.length : Int) - 1)) + 1))).f1) ++ [(⟨(rd_T52 x1 x8).f0, (rd_T52 x1 x8).f1⟩ : S52)])⟩ : S109)) (wrap64 (x8 + 1))) else (none)) else (none)) else (none)) else (none))) else (none)) else (if 0 ≤ (wrap64 ((x7.length : Int) - 1)) then (if (wrap64 ((x7.length : Int) - 1)) < (x7.length : Int) then (if (((rd_T109 x7 (wrap64 ((x7.length : Int) - 1))).f1).length : Int) ≥ (mx x2 1) then (if x7.length < 4398046511104 then ((some (x7 ++ [(⟨x0, ([] : List (S52))⟩ : S109)] : List (S109))).bind fun y303 => (if 0 ≤ (wrap64 ((wrap64 ((x7.length : Int) - 1)) + 1)) then (if (wrap64 ((wrap64 ((x7.length : Int) - 1)) + 1)) < (y303.length : Int) then (if 0 ≤ x8 then (if ((rd_T109 y303 (wrap64 ((wrap64 ((x7.length : Int) - 1)) + 1))).f1).length < 8796093022208 then (marigraphref09_Cut.l0 k x0 x1 x2 (y303.set ((wrap64 ((wrap64 ((x7.length : Int) - 1)) + 1)) : Int).toNat (⟨(rd_T109 y303 (wrap64 ((wrap64 ((x7.length : Int) - 1)) + 1))).f0, (((rd_T109 y303 (wrap64 ((wrap64 ((x7.length : Int) - 1)) + 1))).f1) ++ [(⟨(rd_T52 x1 x8).f0, (rd_T52 x1 x8).f1⟩ : S52)])⟩ : S109)) (wrap64 (x8 + 1))) else (none)) else (none)) else (none)) else (none))) else (none)) else (if 0 ≤ x8 then (if ((rd_T109 x7 (wrap64 ((x7.length : Int) - 1))).f1).length < 8796093022208 then (marigraphref09_Cut.l0 k x0 x1 x2 (x7.set ((wrap64 ((x7.length : Int) - 1)) : Int).toNat (⟨(rd_T109 x7 (wrap64 ((x7.length : Int) - 1))).f0, (((rd_T109 x7 (wrap64 ((x7.length : Int) - 1))).f1) ++ [(⟨(rd_T52 x1 x8).f0, (rd_T52 x1 x8).f1⟩ : S52)])⟩ : S109)) (wrap64 (x8 + 1))) else (none)) else (none))) else (none)) else (none))) else (some x7)
def marigraphref09_Cut.f (k : Nat) (a0 : Int) (l1 : List (S52)) (a2 : Int) : Option ((List (S109))) := marigraphref09_Cut.l0 k a0 l1 a2 ([] : List (S109)) 0
theorem marigraphref09_Cut.mono_l : ∀ k, (∀ y0 y1 y2 y3 y4, LeO (marigraphref09_Cut.l0 k y0 y1 y2 y3 y4) (marigraphref09_Cut.l0 (k + 1) y0 y1 y2 y3 y4))
  | 0 => fun _ _ _ _ _ r h => by simp [marigraphref09_Cut.l0] at h
  | k + 1 => by
    have ih0 := marigraphref09_Cut.mono_l k
    · intro y0 y1 y2 y3 y4
      unfold marigraphref09_Cut.l0
      repeat' first
      | (with_reducible exact ih0 _ _ _ _ _)
      | (with_reducible exact LeO.refl _)
      | (with_reducible exact LeO.none _)
      | (with_reducible refine LeO.ite ?_ ?_)
      | (with_reducible refine LeO.bind ?_ (fun _ => ?_))
      | exact ih0 _ _ _ _ _
      | exact LeO.none _
      | refine LeO.ite ?_ ?_
      | refine LeO.bind ?_ (fun _ => ?_)
theorem marigraphref09_Cut.mono : ∀ a0 a1 a2 k, LeO (marigraphref09_Cut.f k a0 a1 a2) (marigraphref09_Cut.f (k + 1) a0 a1 a2) := by
  intro a0 a1 a2 k
  have ih0 := marigraphref09_Cut.mono_l k
  unfold marigraphref09_Cut.f
  repeat' first
      | (with_reducible exact ih0 _ _ _ _ _)
      | (with_reducible exact LeO.refl _)
      | (with_reducible exact LeO.none _)
      | (with_reducible refine LeO.ite ?_ ?_)
      | (with_reducible refine LeO.bind ?_ (fun _ => ?_))
      | exact ih0 _ _ _ _ _
      | exact LeO.none _
      | refine LeO.ite ?_ ?_
      | refine LeO.bind ?_ (fun _ => ?_)
end Go.Proofs.Ythkpnnbjcendcaa.X

