-- By xprint.py, out of the translation's own print. Lean checks it.
import Derived.Test.YthkpnnbjcendcaaX0Qc
namespace Go.Proofs.Ythkpnnbjcendcaa.X
open Go.RowKit Go.Proofs.YthkpnnbjcendcaaW.PrintWords Go.Proofs.YthkpnnbjcendcaaW.PrintLast Go.Proofs.YthkpnnbjcendcaaW.PrintMore
attribute [local go_sem] max2_int min2_int max_two min_two max_three min_three max_four min_four   -- for this text's walks alone
set_option linter.unusedVariables false
set_option linter.unusedSimpArgs false

/-! ### marigraphref09_Span: function 46 -/
mutual
def marigraphref09_Span.l0 : Nat → List (S109) → Int → Int → Bool → Int → Option (Int × Int × Bool)
  | 0, _, _, _, _, _ => none
  | k + 1, x0, x5, x6, x7, x8 => if x8 < (x0.length : Int) then (marigraphref09_Span.l1 k x0 x5 x6 x7 x8 0) else (some (x5, x6, x7))
def marigraphref09_Span.l1 : Nat → List (S109) → Int → Int → Bool → Int → Int → Option (Int × Int × Bool)
  | 0, _, _, _, _, _, _ => none
  | k + 1, x0, x5, x6, x7, x8, x9 => if 0 ≤ x8 then (if x8 < (x0.length : Int) then (if x9 < (((rd_T109 x0 x8).f1).length : Int) then (if 0 ≤ x9 then (if x7 = true then (marigraphref09_Span.j2 k x0 x5 x6 x7 x8 x9 ((rd_T52 ((rd_T109 x0 x8).f1) x9).f0) (decide (((rd_T52 ((rd_T109 x0 x8).f1) x9).f0) < x5))) else (marigraphref09_Span.j2 k x0 x5 x6 x7 x8 x9 ((rd_T52 ((rd_T109 x0 x8).f1) x9).f0) true)) else (none)) else (marigraphref09_Span.l0 k x0 x5 x6 x7 (wrap64 (x8 + 1)))) else (none)) else (none)
def marigraphref09_Span.j2 : Nat → List (S109) → Int → Int → Bool → Int → Int → Int → Bool → Option (Int × Int × Bool)
  | 0, _, _, _, _, _, _, _, _ => none
  | k + 1, x0, x5, x6, x7, x8, x9, x10, x42 => if x42 = true then (if x7 = true then (if x10 > x6 then (marigraphref09_Span.l1 k x0 x10 x10 true x8 (wrap64 (x9 + 1))) else (marigraphref09_Span.l1 k x0 x10 x6 true x8 (wrap64 (x9 + 1)))) else (marigraphref09_Span.l1 k x0 x10 x10 true x8 (wrap64 (x9 + 1)))) else (if x7 = true then (if x10 > x6 then (marigraphref09_Span.l1 k x0 x5 x10 true x8 (wrap64 (x9 + 1))) else (marigraphref09_Span.l1 k x0 x5 x6 true x8 (wrap64 (x9 + 1)))) else (marigraphref09_Span.l1 k x0 x5 x10 true x8 (wrap64 (x9 + 1))))
end
def marigraphref09_Span.f (k : Nat) (l0 : List (S109)) : Option (Int × Int × Bool) := marigraphref09_Span.l0 k l0 0 0 false 0
theorem marigraphref09_Span.mono_l : ∀ k, (∀ y0 y1 y2 y3 y4, LeO (marigraphref09_Span.l0 k y0 y1 y2 y3 y4) (marigraphref09_Span.l0 (k + 1) y0 y1 y2 y3 y4)) ∧ (∀ y0 y1 y2 y3 y4 y5, LeO (marigraphref09_Span.l1 k y0 y1 y2 y3 y4 y5) (marigraphref09_Span.l1 (k + 1) y0 y1 y2 y3 y4 y5)) ∧ (∀ y0 y1 y2 y3 y4 y5 y6 y7, LeO (marigraphref09_Span.j2 k y0 y1 y2 y3 y4 y5 y6 y7) (marigraphref09_Span.j2 (k + 1) y0 y1 y2 y3 y4 y5 y6 y7))
  | 0 => ⟨fun _ _ _ _ _ r h => by simp [marigraphref09_Span.l0] at h, fun _ _ _ _ _ _ r h => by simp [marigraphref09_Span.l1] at h, fun _ _ _ _ _ _ _ _ r h => by simp [marigraphref09_Span.j2] at h⟩
  | k + 1 => by
    obtain ⟨ih0, ih1, ih2⟩ := marigraphref09_Span.mono_l k
    refine ⟨?_, ?_, ?_⟩
    · intro y0 y1 y2 y3 y4
      unfold marigraphref09_Span.l0
      repeat' first
      | (with_reducible exact ih0 _ _ _ _ _)
      | (with_reducible exact ih1 _ _ _ _ _ _)
      | (with_reducible exact ih2 _ _ _ _ _ _ _ _)
      | (with_reducible exact LeO.refl _)
      | (with_reducible exact LeO.none _)
      | (with_reducible refine LeO.ite ?_ ?_)
      | (with_reducible refine LeO.bind ?_ (fun _ => ?_))
      | exact ih0 _ _ _ _ _
      | exact ih1 _ _ _ _ _ _
      | exact ih2 _ _ _ _ _ _ _ _
      | exact LeO.none _
      | refine LeO.ite ?_ ?_
      | refine LeO.bind ?_ (fun _ => ?_)
    · intro y0 y1 y2 y3 y4 y5
      unfold marigraphref09_Span.l1
      repeat' first
      | (with_reducible exact ih0 _ _ _ _ _)
      | (with_reducible exact ih1 _ _ _ _ _ _)
      | (with_reducible exact ih2 _ _ _ _ _ _ _ _)
      | (with_reducible exact LeO.refl _)
      | (with_reducible exact LeO.none _)
      | (with_reducible refine LeO.ite ?_ ?_)
      | (with_reducible refine LeO.bind ?_ (fun _ => ?_))
      | exact ih0 _ _ _ _ _
      | exact ih1 _ _ _ _ _ _
      | exact ih2 _ _ _ _ _ _ _ _
      | exact LeO.none _
      | refine LeO.ite ?_ ?_
      | refine LeO.bind ?_ (fun _ => ?_)
    · intro y0 y1 y2 y3 y4 y5 y6 y7
      unfold marigraphref09_Span.j2
      repeat' first
      | (with_reducible exact ih0 _ _ _ _ _)
      | (with_reducible exact ih1 _ _ _ _ _ _)
      | (with_reducible exact ih2 _ _ _ _ _ _ _ _)
      | (with_reducible exact LeO.refl _)
      | (with_reducible exact LeO.none _)
      | (with_reducible refine LeO.ite ?_ ?_)
      | (with_reducible refine LeO.bind ?_ (fun _ => ?_))
      | exact ih0 _ _ _ _ _
      | exact ih1 _ _ _ _ _ _
      | exact ih2 _ _ _ _ _ _ _ _
      | exact LeO.none _
      | refine LeO.ite ?_ ?_
      | refine LeO.bind ?_ (fun _ => ?_)
theorem marigraphref09_Span.mono : ∀ a0 k, LeO (marigraphref09_Span.f k a0) (marigraphref09_Span.f (k + 1) a0) := by
  intro a0 k
  obtain ⟨ih0, ih1, ih2⟩ := marigraphref09_Span.mono_l k
  unfold marigraphref09_Span.f
  repeat' first
      | (with_reducible exact ih0 _ _ _ _ _)
      | (with_reducible exact ih1 _ _ _ _ _ _)
      | (with_reducible exact ih2 _ _ _ _ _ _ _ _)
      | (with_reducible exact LeO.refl _)
      | (with_reducible exact LeO.none _)
      | (with_reducible refine LeO.ite ?_ ?_)
      | (with_reducible refine LeO.bind ?_ (fun _ => ?_))
      | exact ih0 _ _ _ _ _
      | exact ih1 _ _ _ _ _ _
      | exact ih2 _ _ _ _ _ _ _ _
      | exact LeO.none _
      | refine LeO.ite ?_ ?_
      | refine LeO.bind ?_ (fun _ => ?_)
end Go.Proofs.Ythkpnnbjcendcaa.X

