/- X1, X9, X16, X17, X18, X24, X25, X26, X27, X28, X30, X40, X43, X44, X53, X59, X60, X62, X65, put together. -/
import Derived.Test.YthkpnnbjcendcaaX0Qb
section
-- By xprint.py, out of the translation's own print. Lean checks it.
namespace Go.Proofs.Ythkpnnbjcendcaa.X
open Go.RowKit Go.Proofs.YthkpnnbjcendcaaW.PrintWords Go.Proofs.YthkpnnbjcendcaaW.PrintLast Go.Proofs.YthkpnnbjcendcaaW.PrintMore
attribute [local go_sem] max2_int min2_int max_two min_two max_three min_three max_four min_four   -- for this text's walks alone
set_option linter.unusedVariables false
set_option linter.unusedSimpArgs false

theorem eqA52 (d : Nat) (w : World) (x0 y0 : Int) (x1 y1 : Int) :
    (Op.equalIn (d + 2) 52 (.agg #[.int .i64 x0, .int .i64 x1]) (.agg #[.int .i64 y0, .int .i64 y1])).run Try.prog w = .ok (x0 == y0 && (x1 == y1)) w := by
  refine eqA_of Try.underlying52 (by kernel_rfl) ?_
  refine eqf_cons (by rfl) (by go_simp; rfl) (by go_simp; rfl) (by go_simp) ?_
  exact eqf_last (by rfl) (by go_simp; rfl) (by go_simp; rfl) (by go_simp)
end Go.Proofs.Ythkpnnbjcendcaa.X
end
section
-- By xprint.py, out of the translation's own print. Lean checks it.
namespace Go.Proofs.Ythkpnnbjcendcaa.X
open Go.RowKit Go.Proofs.YthkpnnbjcendcaaW.PrintWords Go.Proofs.YthkpnnbjcendcaaW.PrintLast Go.Proofs.YthkpnnbjcendcaaW.PrintMore
attribute [local go_sem] max2_int min2_int max_two min_two max_three min_three max_four min_four   -- for this text's walks alone
set_option linter.unusedVariables false
set_option linter.unusedSimpArgs false

/-! ### marigraphref02_fits: function 61 -/
def marigraphref02_fits.l0 : Nat → Int → Int → Int → Option (Bool)
  | 0, _, _, _ => none
  | k + 1, x0, x1, x5 => if x5 < x1 then (marigraphref02_fits.l0 k (IntKind.u64.wrap (Int.tdiv x0 2)) x1 (wrap64 (x5 + 1))) else (some (x0 == 0))
def marigraphref02_fits.f (k : Nat) (a0 : Int) (a1 : Int) : Option (Bool) := marigraphref02_fits.l0 k a0 a1 0
theorem marigraphref02_fits.mono_l : ∀ k, (∀ y0 y1 y2, LeO (marigraphref02_fits.l0 k y0 y1 y2) (marigraphref02_fits.l0 (k + 1) y0 y1 y2))
  | 0 => fun _ _ _ r h => by simp [marigraphref02_fits.l0] at h
  | k + 1 => by
    have ih0 := marigraphref02_fits.mono_l k
    · intro y0 y1 y2
      unfold marigraphref02_fits.l0
      repeat' first
      | (with_reducible exact ih0 _ _ _)
      | (with_reducible exact LeO.refl _)
      | (with_reducible exact LeO.none _)
      | (with_reducible refine LeO.ite ?_ ?_)
      | (with_reducible refine LeO.bind ?_ (fun _ => ?_))
      | exact ih0 _ _ _
      | exact LeO.none _
      | refine LeO.ite ?_ ?_
      | refine LeO.bind ?_ (fun _ => ?_)
theorem marigraphref02_fits.mono : ∀ a0 a1 k, LeO (marigraphref02_fits.f k a0 a1) (marigraphref02_fits.f (k + 1) a0 a1) := by
  intro a0 a1 k
  have ih0 := marigraphref02_fits.mono_l k
  unfold marigraphref02_fits.f
  repeat' first
      | (with_reducible exact ih0 _ _ _)
      | (with_reducible exact LeO.refl _)
      | (with_reducible exact LeO.none _)
      | (with_reducible refine LeO.ite ?_ ?_)
      | (with_reducible refine LeO.bind ?_ (fun _ => ?_))
      | exact ih0 _ _ _
      | exact LeO.none _
      | refine LeO.ite ?_ ?_
      | refine LeO.bind ?_ (fun _ => ?_)
end Go.Proofs.Ythkpnnbjcendcaa.X
end
section
-- By xprint.py, out of the translation's own print. Lean checks it.
namespace Go.Proofs.Ythkpnnbjcendcaa.X
open Go.RowKit Go.Proofs.YthkpnnbjcendcaaW.PrintWords Go.Proofs.YthkpnnbjcendcaaW.PrintLast Go.Proofs.YthkpnnbjcendcaaW.PrintMore
attribute [local go_sem] max2_int min2_int max_two min_two max_three min_three max_four min_four   -- for this text's walks alone
set_option linter.unusedVariables false
set_option linter.unusedSimpArgs false

/-! ### steps_Right: function 33 -/
def steps_Right.l0 : Nat → List (S52) → Int → Int → Option (Bool)
  | 0, _, _, _ => none
  | k + 1, x0, x5, x6 => if x6 < x5 then (if x6 > 0 then (if 0 ≤ (wrap64 (x6 - 1)) then (if (wrap64 (x6 - 1)) < (x0.length : Int) then (if 0 ≤ x6 then (if x6 < (x0.length : Int) then (if ((rd_T52 x0 (wrap64 (x6 - 1))).f0) ≥ ((rd_T52 x0 x6).f0) then (some false) else (steps_Right.l0 k x0 x5 (wrap64 (x6 + 1)))) else (none)) else (none)) else (none)) else (none)) else (steps_Right.l0 k x0 x5 (wrap64 (x6 + 1)))) else (some true)
def steps_Right.f (k : Nat) (l0 : List (S52)) : Option (Bool) := steps_Right.l0 k l0 (l0.length : Int) 0
theorem steps_Right.mono_l : ∀ k, (∀ y0 y1 y2, LeO (steps_Right.l0 k y0 y1 y2) (steps_Right.l0 (k + 1) y0 y1 y2))
  | 0 => fun _ _ _ r h => by simp [steps_Right.l0] at h
  | k + 1 => by
    have ih0 := steps_Right.mono_l k
    · intro y0 y1 y2
      unfold steps_Right.l0
      repeat' first
      | (with_reducible exact ih0 _ _ _)
      | (with_reducible exact LeO.refl _)
      | (with_reducible exact LeO.none _)
      | (with_reducible refine LeO.ite ?_ ?_)
      | (with_reducible refine LeO.bind ?_ (fun _ => ?_))
      | exact ih0 _ _ _
      | exact LeO.none _
      | refine LeO.ite ?_ ?_
      | refine LeO.bind ?_ (fun _ => ?_)
theorem steps_Right.mono : ∀ a0 k, LeO (steps_Right.f k a0) (steps_Right.f (k + 1) a0) := by
  intro a0 k
  have ih0 := steps_Right.mono_l k
  unfold steps_Right.f
  repeat' first
      | (with_reducible exact ih0 _ _ _)
      | (with_reducible exact LeO.refl _)
      | (with_reducible exact LeO.none _)
      | (with_reducible refine LeO.ite ?_ ?_)
      | (with_reducible refine LeO.bind ?_ (fun _ => ?_))
      | exact ih0 _ _ _
      | exact LeO.none _
      | refine LeO.ite ?_ ?_
      | refine LeO.bind ?_ (fun _ => ?_)
end Go.Proofs.Ythkpnnbjcendcaa.X
end
section
-- By xprint.py, out of the translation's own print. Lean checks it.
namespace Go.Proofs.Ythkpnnbjcendcaa.X
open Go.RowKit Go.Proofs.YthkpnnbjcendcaaW.PrintWords Go.Proofs.YthkpnnbjcendcaaW.PrintLast Go.Proofs.YthkpnnbjcendcaaW.PrintMore
attribute [local go_sem] max2_int min2_int max_two min_two max_three min_three max_four min_four   -- for this text's walks alone
set_option linter.unusedVariables false
set_option linter.unusedSimpArgs false

/-! ### octs_Fold: function 96 -/
end Go.Proofs.Ythkpnnbjcendcaa.X
end
section
-- By xprint.py, out of the translation's own print. Lean checks it.
namespace Go.Proofs.Ythkpnnbjcendcaa.X
open Go.RowKit Go.Proofs.YthkpnnbjcendcaaW.PrintWords Go.Proofs.YthkpnnbjcendcaaW.PrintLast Go.Proofs.YthkpnnbjcendcaaW.PrintMore
attribute [local go_sem] max2_int min2_int max_two min_two max_three min_three max_four min_four   -- for this text's walks alone
set_option linter.unusedVariables false
set_option linter.unusedSimpArgs false

/-! ### steps_widths: function 97 -/
end Go.Proofs.Ythkpnnbjcendcaa.X
end
section
-- By xprint.py, out of the translation's own print. Lean checks it.
namespace Go.Proofs.Ythkpnnbjcendcaa.X
open Go.RowKit Go.Proofs.YthkpnnbjcendcaaW.PrintWords Go.Proofs.YthkpnnbjcendcaaW.PrintLast Go.Proofs.YthkpnnbjcendcaaW.PrintMore
attribute [local go_sem] max2_int min2_int max_two min_two max_three min_three max_four min_four   -- for this text's walks alone
set_option linter.unusedVariables false
set_option linter.unusedSimpArgs false

/-! ### marigraphref04_Right: function 34 -/
def marigraphref04_Right.l0 : Nat → List (S52) → Int → Option (Bool)
  | 0, _, _ => none
  | k + 1, x0, x3 => if x3 < (x0.length : Int) then (if 0 ≤ x3 then (if 0 ≤ (wrap64 (x3 - 1)) then (if (wrap64 (x3 - 1)) < (x0.length : Int) then (if ((rd_T52 x0 x3).f0) ≤ ((rd_T52 x0 (wrap64 (x3 - 1))).f0) then (some false) else (marigraphref04_Right.l0 k x0 (wrap64 (x3 + 1)))) else (none)) else (none)) else (none)) else (some true)
def marigraphref04_Right.f (k : Nat) (l0 : List (S52)) : Option (Bool) := marigraphref04_Right.l0 k l0 1
theorem marigraphref04_Right.mono_l : ∀ k, (∀ y0 y1, LeO (marigraphref04_Right.l0 k y0 y1) (marigraphref04_Right.l0 (k + 1) y0 y1))
  | 0 => fun _ _ r h => by simp [marigraphref04_Right.l0] at h
  | k + 1 => by
    have ih0 := marigraphref04_Right.mono_l k
    · intro y0 y1
      unfold marigraphref04_Right.l0
      repeat' first
      | (with_reducible exact ih0 _ _)
      | (with_reducible exact LeO.refl _)
      | (with_reducible exact LeO.none _)
      | (with_reducible refine LeO.ite ?_ ?_)
      | (with_reducible refine LeO.bind ?_ (fun _ => ?_))
      | exact ih0 _ _
      | exact LeO.none _
      | refine LeO.ite ?_ ?_
      | refine LeO.bind ?_ (fun _ => ?_)
theorem marigraphref04_Right.mono : ∀ a0 k, LeO (marigraphref04_Right.f k a0) (marigraphref04_Right.f (k + 1) a0) := by
  intro a0 k
  have ih0 := marigraphref04_Right.mono_l k
  unfold marigraphref04_Right.f
  repeat' first
      | (with_reducible exact ih0 _ _)
      | (with_reducible exact LeO.refl _)
      | (with_reducible exact LeO.none _)
      | (with_reducible refine LeO.ite ?_ ?_)
      | (with_reducible refine LeO.bind ?_ (fun _ => ?_))
      | exact ih0 _ _
      | exact LeO.none _
      | refine LeO.ite ?_ ?_
      | refine LeO.bind ?_ (fun _ => ?_)
end Go.Proofs.Ythkpnnbjcendcaa.X
end
section
-- By xprint.py, out of the translation's own print. Lean checks it.
namespace Go.Proofs.Ythkpnnbjcendcaa.X
open Go.RowKit Go.Proofs.YthkpnnbjcendcaaW.PrintWords Go.Proofs.YthkpnnbjcendcaaW.PrintLast Go.Proofs.YthkpnnbjcendcaaW.PrintMore
attribute [local go_sem] max2_int min2_int max_two min_two max_three min_three max_four min_four   -- for this text's walks alone
set_option linter.unusedVariables false
set_option linter.unusedSimpArgs false

/-! ### marigraphref04_less: function 70 -/
def marigraphref04_less.f (a0 : Int) (a1 : Int) : Option (Int) := some (wrap64 (IntKind.u64.wrap ((IntKind.u64.wrap (a0)) - (IntKind.u64.wrap (a1)))))
end Go.Proofs.Ythkpnnbjcendcaa.X
end
section
-- By xprint.py, out of the translation's own print. Lean checks it.
namespace Go.Proofs.Ythkpnnbjcendcaa.X
open Go.RowKit Go.Proofs.YthkpnnbjcendcaaW.PrintWords Go.Proofs.YthkpnnbjcendcaaW.PrintLast Go.Proofs.YthkpnnbjcendcaaW.PrintMore
attribute [local go_sem] max2_int min2_int max_two min_two max_three min_three max_four min_four   -- for this text's walks alone
set_option linter.unusedVariables false
set_option linter.unusedSimpArgs false

/-! ### marigraphref04_Seconds: function 38 -/
def marigraphref04_Seconds.l0 : Nat → List Int → List Int → Int → Int → Int → Option (List Int)
  | 0, _, _, _, _, _ => none
  | k + 1, x0, x3, x4, x5, x6 => if x6 < (x0.length : Int) then (if 0 ≤ x6 then ((marigraphref04_less.f (rd x0 x6) x4).bind fun t151 => ((marigraphref04_less.f t151 x5).bind fun t152 => (if x3.length < 17592186044416 then (marigraphref04_Seconds.l0 k x0 (x3 ++ [t152]) (rd x0 x6) t151 (wrap64 (x6 + 1))) else (none)))) else (none)) else (some x3)
def marigraphref04_Seconds.f (k : Nat) (l0 : List Int) : Option (List Int) := marigraphref04_Seconds.l0 k l0 ([] : List Int) 0 0 0
theorem marigraphref04_Seconds.mono_l : ∀ k, (∀ y0 y1 y2 y3 y4, LeO (marigraphref04_Seconds.l0 k y0 y1 y2 y3 y4) (marigraphref04_Seconds.l0 (k + 1) y0 y1 y2 y3 y4))
  | 0 => fun _ _ _ _ _ r h => by simp [marigraphref04_Seconds.l0] at h
  | k + 1 => by
    have ih0 := marigraphref04_Seconds.mono_l k
    · intro y0 y1 y2 y3 y4
      unfold marigraphref04_Seconds.l0
      repeat' first
      | (with_reducible exact ih0 _ _ _ _ _)
      | (with_reducible exact LeO.refl _)
      | (with_reducible exact LeO.none _)
      | (with_reducible refine LeO.ite ?_ ?_)
      | (with_reducible refine LeO.bind ?_ (fun _ => ?_))
      | exact ih0 _ _ _ _ _
      | exact LeO.none _
      | refine LeO.ite ?_ ?_
      | refine LeO.bind ?_ (fun _ => ?_)
theorem marigraphref04_Seconds.mono : ∀ a0 k, LeO (marigraphref04_Seconds.f k a0) (marigraphref04_Seconds.f (k + 1) a0) := by
  intro a0 k
  have ih0 := marigraphref04_Seconds.mono_l k
  unfold marigraphref04_Seconds.f
  repeat' first
      | (with_reducible exact ih0 _ _ _ _ _)
      | (with_reducible exact LeO.refl _)
      | (with_reducible exact LeO.none _)
      | (with_reducible refine LeO.ite ?_ ?_)
      | (with_reducible refine LeO.bind ?_ (fun _ => ?_))
      | exact ih0 _ _ _ _ _
      | exact LeO.none _
      | refine LeO.ite ?_ ?_
      | refine LeO.bind ?_ (fun _ => ?_)
end Go.Proofs.Ythkpnnbjcendcaa.X
end
section
-- By xprint.py, out of the translation's own print. Lean checks it.
namespace Go.Proofs.Ythkpnnbjcendcaa.X
open Go.RowKit Go.Proofs.YthkpnnbjcendcaaW.PrintWords Go.Proofs.YthkpnnbjcendcaaW.PrintLast Go.Proofs.YthkpnnbjcendcaaW.PrintMore
attribute [local go_sem] max2_int min2_int max_two min_two max_three min_three max_four min_four   -- for this text's walks alone
set_option linter.unusedVariables false
set_option linter.unusedSimpArgs false

/-! ### marigraphref04_split: function 66 -/
def marigraphref04_split.l0 : Nat → List (S52) → List Int → List Int → Int → Option (List Int × List Int)
  | 0, _, _, _, _ => none
  | k + 1, x0, x4, x5, x6 => if x6 < (x0.length : Int) then (if 0 ≤ x6 then (if x4.length < 17592186044416 then (if x5.length < 17592186044416 then (marigraphref04_split.l0 k x0 (x4 ++ [(rd_T52 x0 x6).f0]) (x5 ++ [(rd_T52 x0 x6).f1]) (wrap64 (x6 + 1))) else (none)) else (none)) else (none)) else (some (x4, x5))
def marigraphref04_split.f (k : Nat) (l0 : List (S52)) : Option (List Int × List Int) := marigraphref04_split.l0 k l0 ([] : List Int) ([] : List Int) 0
theorem marigraphref04_split.mono_l : ∀ k, (∀ y0 y1 y2 y3, LeO (marigraphref04_split.l0 k y0 y1 y2 y3) (marigraphref04_split.l0 (k + 1) y0 y1 y2 y3))
  | 0 => fun _ _ _ _ r h => by simp [marigraphref04_split.l0] at h
  | k + 1 => by
    have ih0 := marigraphref04_split.mono_l k
    · intro y0 y1 y2 y3
      unfold marigraphref04_split.l0
      repeat' first
      | (with_reducible exact ih0 _ _ _ _)
      | (with_reducible exact LeO.refl _)
      | (with_reducible exact LeO.none _)
      | (with_reducible refine LeO.ite ?_ ?_)
      | (with_reducible refine LeO.bind ?_ (fun _ => ?_))
      | exact ih0 _ _ _ _
      | exact LeO.none _
      | refine LeO.ite ?_ ?_
      | refine LeO.bind ?_ (fun _ => ?_)
theorem marigraphref04_split.mono : ∀ a0 k, LeO (marigraphref04_split.f k a0) (marigraphref04_split.f (k + 1) a0) := by
  intro a0 k
  have ih0 := marigraphref04_split.mono_l k
  unfold marigraphref04_split.f
  repeat' first
      | (with_reducible exact ih0 _ _ _ _)
      | (with_reducible exact LeO.refl _)
      | (with_reducible exact LeO.none _)
      | (with_reducible refine LeO.ite ?_ ?_)
      | (with_reducible refine LeO.bind ?_ (fun _ => ?_))
      | exact ih0 _ _ _ _
      | exact LeO.none _
      | refine LeO.ite ?_ ?_
      | refine LeO.bind ?_ (fun _ => ?_)
end Go.Proofs.Ythkpnnbjcendcaa.X
end
section
-- By xprint.py, out of the translation's own print. Lean checks it.
namespace Go.Proofs.Ythkpnnbjcendcaa.X
open Go.RowKit Go.Proofs.YthkpnnbjcendcaaW.PrintWords Go.Proofs.YthkpnnbjcendcaaW.PrintLast Go.Proofs.YthkpnnbjcendcaaW.PrintMore
attribute [local go_sem] max2_int min2_int max_two min_two max_three min_three max_four min_four   -- for this text's walks alone
set_option linter.unusedVariables false
set_option linter.unusedSimpArgs false

/-! ### marigraphref01_Fold: function 98 -/
end Go.Proofs.Ythkpnnbjcendcaa.X
end
section
-- By xprint.py, out of the translation's own print. Lean checks it.
namespace Go.Proofs.Ythkpnnbjcendcaa.X
open Go.RowKit Go.Proofs.YthkpnnbjcendcaaW.PrintWords Go.Proofs.YthkpnnbjcendcaaW.PrintLast Go.Proofs.YthkpnnbjcendcaaW.PrintMore
attribute [local go_sem] max2_int min2_int max_two min_two max_three min_three max_four min_four   -- for this text's walks alone
set_option linter.unusedVariables false
set_option linter.unusedSimpArgs false

/-! ### marigraphref01_Put: function 68 -/
def marigraphref01_Put.l0 : Nat → Int → List Int → Option (List Int)
  | 0, _, _ => none
  | k + 1, x1, x5 => if x1 > 127 then (if x5.length < 140737488355328 then (marigraphref01_Put.l0 k (IntKind.u64.wrap (Int.tdiv x1 128)) (x5 ++ [(IntKind.u64.wrap ((Int.tmod x1 128) + 128)) % 256])) else (none)) else (if x5.length < 140737488355328 then (some (x5 ++ [(x1) % 256])) else (none))
def marigraphref01_Put.f (k : Nat) (l0 : List Int) (a1 : Int) : Option (List Int) := (some (([] : List Int) : List Int)).bind fun y166 => (if y166.length + l0.length < 140737488355328 then (marigraphref01_Put.l0 k a1 (y166 ++ l0)) else (none))
theorem marigraphref01_Put.mono_l : ∀ k, (∀ y0 y1, LeO (marigraphref01_Put.l0 k y0 y1) (marigraphref01_Put.l0 (k + 1) y0 y1))
  | 0 => fun _ _ r h => by simp [marigraphref01_Put.l0] at h
  | k + 1 => by
    have ih0 := marigraphref01_Put.mono_l k
    · intro y0 y1
      unfold marigraphref01_Put.l0
      repeat' first
      | (with_reducible exact ih0 _ _)
      | (with_reducible exact LeO.refl _)
      | (with_reducible exact LeO.none _)
      | (with_reducible refine LeO.ite ?_ ?_)
      | (with_reducible refine LeO.bind ?_ (fun _ => ?_))
      | exact ih0 _ _
      | exact LeO.none _
      | refine LeO.ite ?_ ?_
      | refine LeO.bind ?_ (fun _ => ?_)
theorem marigraphref01_Put.mono : ∀ a0 a1 k, LeO (marigraphref01_Put.f k a0 a1) (marigraphref01_Put.f (k + 1) a0 a1) := by
  intro a0 a1 k
  have ih0 := marigraphref01_Put.mono_l k
  unfold marigraphref01_Put.f
  repeat' first
      | (with_reducible exact ih0 _ _)
      | (with_reducible exact LeO.refl _)
      | (with_reducible exact LeO.none _)
      | (with_reducible refine LeO.ite ?_ ?_)
      | (with_reducible refine LeO.bind ?_ (fun _ => ?_))
      | exact ih0 _ _
      | exact LeO.none _
      | refine LeO.ite ?_ ?_
      | refine LeO.bind ?_ (fun _ => ?_)
end Go.Proofs.Ythkpnnbjcendcaa.X
end
section
-- By xprint.py, out of the translation's own print. Lean checks it.
namespace Go.Proofs.Ythkpnnbjcendcaa.X
open Go.RowKit Go.Proofs.YthkpnnbjcendcaaW.PrintWords Go.Proofs.YthkpnnbjcendcaaW.PrintLast Go.Proofs.YthkpnnbjcendcaaW.PrintMore
attribute [local go_sem] max2_int min2_int max_two min_two max_three min_three max_four min_four   -- for this text's walks alone
set_option linter.unusedVariables false
set_option linter.unusedSimpArgs false

/-! ### marigraphref04_Ints: function 37 -/
def marigraphref04_Ints.l0 : Nat → List Int → List Int → Int → Option (Bool)
  | 0, _, _, _ => none
  | k + 1, x0, x1, x5 => if x5 < (x0.length : Int) then (if 0 ≤ x5 then (if x5 < (x1.length : Int) then (if (rd x0 x5) = (rd x1 x5) then (marigraphref04_Ints.l0 k x0 x1 (wrap64 (x5 + 1))) else (some false)) else (none)) else (none)) else (some true)
def marigraphref04_Ints.f (k : Nat) (l0 : List Int) (l1 : List Int) : Option (Bool) := if (l0.length : Int) = (l1.length : Int) then (marigraphref04_Ints.l0 k l0 l1 0) else (some false)
theorem marigraphref04_Ints.mono_l : ∀ k, (∀ y0 y1 y2, LeO (marigraphref04_Ints.l0 k y0 y1 y2) (marigraphref04_Ints.l0 (k + 1) y0 y1 y2))
  | 0 => fun _ _ _ r h => by simp [marigraphref04_Ints.l0] at h
  | k + 1 => by
    have ih0 := marigraphref04_Ints.mono_l k
    · intro y0 y1 y2
      unfold marigraphref04_Ints.l0
      repeat' first
      | (with_reducible exact ih0 _ _ _)
      | (with_reducible exact LeO.refl _)
      | (with_reducible exact LeO.none _)
      | (with_reducible refine LeO.ite ?_ ?_)
      | (with_reducible refine LeO.bind ?_ (fun _ => ?_))
      | exact ih0 _ _ _
      | exact LeO.none _
      | refine LeO.ite ?_ ?_
      | refine LeO.bind ?_ (fun _ => ?_)
theorem marigraphref04_Ints.mono : ∀ a0 a1 k, LeO (marigraphref04_Ints.f k a0 a1) (marigraphref04_Ints.f (k + 1) a0 a1) := by
  intro a0 a1 k
  have ih0 := marigraphref04_Ints.mono_l k
  unfold marigraphref04_Ints.f
  repeat' first
      | (with_reducible exact ih0 _ _ _)
      | (with_reducible exact LeO.refl _)
      | (with_reducible exact LeO.none _)
      | (with_reducible refine LeO.ite ?_ ?_)
      | (with_reducible refine LeO.bind ?_ (fun _ => ?_))
      | exact ih0 _ _ _
      | exact LeO.none _
      | refine LeO.ite ?_ ?_
      | refine LeO.bind ?_ (fun _ => ?_)
end Go.Proofs.Ythkpnnbjcendcaa.X
end
section
-- By xprint.py, out of the translation's own print. Lean checks it.
namespace Go.Proofs.Ythkpnnbjcendcaa.X
open Go.RowKit Go.Proofs.YthkpnnbjcendcaaW.PrintWords Go.Proofs.YthkpnnbjcendcaaW.PrintLast Go.Proofs.YthkpnnbjcendcaaW.PrintMore
attribute [local go_sem] max2_int min2_int max_two min_two max_three min_three max_four min_four   -- for this text's walks alone
set_option linter.unusedVariables false
set_option linter.unusedSimpArgs false

/-! ### marigraphref04_more: function 72 -/
def marigraphref04_more.f (a0 : Int) (a1 : Int) : Option (Int) := some (wrap64 (IntKind.u64.wrap ((IntKind.u64.wrap (a0)) + (IntKind.u64.wrap (a1)))))
end Go.Proofs.Ythkpnnbjcendcaa.X
end
section
-- By xprint.py, out of the translation's own print. Lean checks it.
namespace Go.Proofs.Ythkpnnbjcendcaa.X
open Go.RowKit Go.Proofs.YthkpnnbjcendcaaW.PrintWords Go.Proofs.YthkpnnbjcendcaaW.PrintLast Go.Proofs.YthkpnnbjcendcaaW.PrintMore
attribute [local go_sem] max2_int min2_int max_two min_two max_three min_three max_four min_four   -- for this text's walks alone
set_option linter.unusedVariables false
set_option linter.unusedSimpArgs false

/-! ### marigraphref04_Firsts: function 40 -/
def marigraphref04_Firsts.l0 : Nat → List Int → List Int → Int → Int → Int → Option (List Int)
  | 0, _, _, _, _, _ => none
  | k + 1, x0, x3, x4, x5, x6 => if x6 < (x0.length : Int) then (if 0 ≤ x6 then ((marigraphref04_more.f x5 (rd x0 x6)).bind fun t222 => ((marigraphref04_more.f x4 t222).bind fun t223 => (if x3.length < 17592186044416 then (marigraphref04_Firsts.l0 k x0 (x3 ++ [t223]) t223 t222 (wrap64 (x6 + 1))) else (none)))) else (none)) else (some x3)
def marigraphref04_Firsts.f (k : Nat) (l0 : List Int) : Option (List Int) := marigraphref04_Firsts.l0 k l0 ([] : List Int) 0 0 0
theorem marigraphref04_Firsts.mono_l : ∀ k, (∀ y0 y1 y2 y3 y4, LeO (marigraphref04_Firsts.l0 k y0 y1 y2 y3 y4) (marigraphref04_Firsts.l0 (k + 1) y0 y1 y2 y3 y4))
  | 0 => fun _ _ _ _ _ r h => by simp [marigraphref04_Firsts.l0] at h
  | k + 1 => by
    have ih0 := marigraphref04_Firsts.mono_l k
    · intro y0 y1 y2 y3 y4
      unfold marigraphref04_Firsts.l0
      repeat' first
      | (with_reducible exact ih0 _ _ _ _ _)
      | (with_reducible exact LeO.refl _)
      | (with_reducible exact LeO.none _)
      | (with_reducible refine LeO.ite ?_ ?_)
      | (with_reducible refine LeO.bind ?_ (fun _ => ?_))
      | exact ih0 _ _ _ _ _
      | exact LeO.none _
      | refine LeO.ite ?_ ?_
      | refine LeO.bind ?_ (fun _ => ?_)
theorem marigraphref04_Firsts.mono : ∀ a0 k, LeO (marigraphref04_Firsts.f k a0) (marigraphref04_Firsts.f (k + 1) a0) := by
  intro a0 k
  have ih0 := marigraphref04_Firsts.mono_l k
  unfold marigraphref04_Firsts.f
  repeat' first
      | (with_reducible exact ih0 _ _ _ _ _)
      | (with_reducible exact LeO.refl _)
      | (with_reducible exact LeO.none _)
      | (with_reducible refine LeO.ite ?_ ?_)
      | (with_reducible refine LeO.bind ?_ (fun _ => ?_))
      | exact ih0 _ _ _ _ _
      | exact LeO.none _
      | refine LeO.ite ?_ ?_
      | refine LeO.bind ?_ (fun _ => ?_)
end Go.Proofs.Ythkpnnbjcendcaa.X
end
section
-- By xprint.py, out of the translation's own print. Lean checks it.
namespace Go.Proofs.Ythkpnnbjcendcaa.X
open Go.RowKit Go.Proofs.YthkpnnbjcendcaaW.PrintWords Go.Proofs.YthkpnnbjcendcaaW.PrintLast Go.Proofs.YthkpnnbjcendcaaW.PrintMore
attribute [local go_sem] max2_int min2_int max_two min_two max_three min_three max_four min_four   -- for this text's walks alone
set_option linter.unusedVariables false
set_option linter.unusedSimpArgs false

/-! ### octs_Open: function 102 -/
end Go.Proofs.Ythkpnnbjcendcaa.X
end
section
-- By xprint.py, out of the translation's own print. Lean checks it.
namespace Go.Proofs.Ythkpnnbjcendcaa.X
open Go.RowKit Go.Proofs.YthkpnnbjcendcaaW.PrintWords Go.Proofs.YthkpnnbjcendcaaW.PrintLast Go.Proofs.YthkpnnbjcendcaaW.PrintMore
attribute [local go_sem] max2_int min2_int max_two min_two max_three min_three max_four min_four   -- for this text's walks alone
set_option linter.unusedVariables false
set_option linter.unusedSimpArgs false

/-! ### marigraphref02_bit: function 110 -/
def marigraphref02_bit.f (l0 : List Int) (a1 : Int) : Option (Int) := if 0 ≤ (wrap64 (Int.tdiv a1 8)) then (if (wrap64 (Int.tdiv a1 8)) < (l0.length : Int) then (if 0 ≤ (Int.tmod a1 8) then (if (shr .u8 128 (Int.tmod a1 8)) = 0 then (none) else (some (((Int.tdiv (rd l0 (wrap64 (Int.tdiv a1 8))) (shr .u8 128 (Int.tmod a1 8))) % 256) % 2))) else (none)) else (none)) else (none)
end Go.Proofs.Ythkpnnbjcendcaa.X
end
section
-- By xprint.py, out of the translation's own print. Lean checks it.
namespace Go.Proofs.Ythkpnnbjcendcaa.X
open Go.RowKit Go.Proofs.YthkpnnbjcendcaaW.PrintWords Go.Proofs.YthkpnnbjcendcaaW.PrintLast Go.Proofs.YthkpnnbjcendcaaW.PrintMore
attribute [local go_sem] max2_int min2_int max_two min_two max_three min_three max_four min_four   -- for this text's walks alone
set_option linter.unusedVariables false
set_option linter.unusedSimpArgs false

/-! ### marigraphref02_At: function 109 -/
mutual
def marigraphref02_At.j0 : Nat → List Int → Int → Int → Bool → Option (Int × Int)
  | 0, _, _, _, _ => none
  | k + 1, x0, x1, x2, x15 => if x15 = true then (some (0, 20)) else (if x1 < 0 then (marigraphref02_At.j1 k x0 x1 x2 true) else (marigraphref02_At.j1 k x0 x1 x2 (decide (x1 > (wrap64 ((wrap64 (8 * (x0.length : Int))) - x2))))))
def marigraphref02_At.j1 : Nat → List Int → Int → Int → Bool → Option (Int × Int)
  | 0, _, _, _, _ => none
  | k + 1, x0, x1, x2, x26 => if x26 = true then (some (0, 2)) else (marigraphref02_At.l0 k x0 x1 x2 0 0)
def marigraphref02_At.l0 : Nat → List Int → Int → Int → Int → Int → Option (Int × Int)
  | 0, _, _, _, _, _ => none
  | k + 1, x0, x1, x2, x8, x9 => if x9 < x2 then ((marigraphref02_bit.f x0 (wrap64 (x1 + x9))).bind fun t240 => (marigraphref02_At.l0 k x0 x1 x2 (IntKind.u64.wrap ((IntKind.u64.wrap (x8 * 2)) + t240)) (wrap64 (x9 + 1)))) else (some (x8, 0))
end
def marigraphref02_At.f (k : Nat) (l0 : List Int) (a1 : Int) (a2 : Int) : Option (Int × Int) := if a2 < 0 then (marigraphref02_At.j0 k l0 a1 a2 true) else (marigraphref02_At.j0 k l0 a1 a2 (decide (a2 > 64)))
theorem marigraphref02_At.mono_l : ∀ k, (∀ y0 y1 y2 y3, LeO (marigraphref02_At.j0 k y0 y1 y2 y3) (marigraphref02_At.j0 (k + 1) y0 y1 y2 y3)) ∧ (∀ y0 y1 y2 y3, LeO (marigraphref02_At.j1 k y0 y1 y2 y3) (marigraphref02_At.j1 (k + 1) y0 y1 y2 y3)) ∧ (∀ y0 y1 y2 y3 y4, LeO (marigraphref02_At.l0 k y0 y1 y2 y3 y4) (marigraphref02_At.l0 (k + 1) y0 y1 y2 y3 y4))
  | 0 => ⟨fun _ _ _ _ r h => by simp [marigraphref02_At.j0] at h, fun _ _ _ _ r h => by simp [marigraphref02_At.j1] at h, fun _ _ _ _ _ r h => by simp [marigraphref02_At.l0] at h⟩
  | k + 1 => by
    obtain ⟨ih0, ih1, ih2⟩ := marigraphref02_At.mono_l k
    refine ⟨?_, ?_, ?_⟩
    · intro y0 y1 y2 y3
      unfold marigraphref02_At.j0
      repeat' first
      | (with_reducible exact ih0 _ _ _ _)
      | (with_reducible exact ih1 _ _ _ _)
      | (with_reducible exact ih2 _ _ _ _ _)
      | (with_reducible exact LeO.refl _)
      | (with_reducible exact LeO.none _)
      | (with_reducible refine LeO.ite ?_ ?_)
      | (with_reducible refine LeO.bind ?_ (fun _ => ?_))
      | exact ih0 _ _ _ _
      | exact ih1 _ _ _ _
      | exact ih2 _ _ _ _ _
      | exact LeO.none _
      | refine LeO.ite ?_ ?_
      | refine LeO.bind ?_ (fun _ => ?_)
    · intro y0 y1 y2 y3
      unfold marigraphref02_At.j1
      repeat' first
      | (with_reducible exact ih0 _ _ _ _)
      | (with_reducible exact ih1 _ _ _ _)
      | (with_reducible exact ih2 _ _ _ _ _)
      | (with_reducible exact LeO.refl _)
      | (with_reducible exact LeO.none _)
      | (with_reducible refine LeO.ite ?_ ?_)
      | (with_reducible refine LeO.bind ?_ (fun _ => ?_))
      | exact ih0 _ _ _ _
      | exact ih1 _ _ _ _
      | exact ih2 _ _ _ _ _
      | exact LeO.none _
      | refine LeO.ite ?_ ?_
      | refine LeO.bind ?_ (fun _ => ?_)
    · intro y0 y1 y2 y3 y4
      unfold marigraphref02_At.l0
      repeat' first
      | (with_reducible exact ih0 _ _ _ _)
      | (with_reducible exact ih1 _ _ _ _)
      | (with_reducible exact ih2 _ _ _ _ _)
      | (with_reducible exact LeO.refl _)
      | (with_reducible exact LeO.none _)
      | (with_reducible refine LeO.ite ?_ ?_)
      | (with_reducible refine LeO.bind ?_ (fun _ => ?_))
      | exact ih0 _ _ _ _
      | exact ih1 _ _ _ _
      | exact ih2 _ _ _ _ _
      | exact LeO.none _
      | refine LeO.ite ?_ ?_
      | refine LeO.bind ?_ (fun _ => ?_)
theorem marigraphref02_At.mono : ∀ a0 a1 a2 k, LeO (marigraphref02_At.f k a0 a1 a2) (marigraphref02_At.f (k + 1) a0 a1 a2) := by
  intro a0 a1 a2 k
  obtain ⟨ih0, ih1, ih2⟩ := marigraphref02_At.mono_l k
  unfold marigraphref02_At.f
  repeat' first
      | (with_reducible exact ih0 _ _ _ _)
      | (with_reducible exact ih1 _ _ _ _)
      | (with_reducible exact ih2 _ _ _ _ _)
      | (with_reducible exact LeO.refl _)
      | (with_reducible exact LeO.none _)
      | (with_reducible refine LeO.ite ?_ ?_)
      | (with_reducible refine LeO.bind ?_ (fun _ => ?_))
      | exact ih0 _ _ _ _
      | exact ih1 _ _ _ _
      | exact ih2 _ _ _ _ _
      | exact LeO.none _
      | refine LeO.ite ?_ ?_
      | refine LeO.bind ?_ (fun _ => ?_)
end Go.Proofs.Ythkpnnbjcendcaa.X
end
section
-- By xprint.py, out of the translation's own print. Lean checks it.
namespace Go.Proofs.Ythkpnnbjcendcaa.X
open Go.RowKit Go.Proofs.YthkpnnbjcendcaaW.PrintWords Go.Proofs.YthkpnnbjcendcaaW.PrintLast Go.Proofs.YthkpnnbjcendcaaW.PrintMore
attribute [local go_sem] max2_int min2_int max_two min_two max_three min_three max_four min_four   -- for this text's walks alone
set_option linter.unusedVariables false
set_option linter.unusedSimpArgs false

/-! ### marigraphref01_Open: function 105 -/
end Go.Proofs.Ythkpnnbjcendcaa.X
end
section
-- By xprint.py, out of the translation's own print. Lean checks it.
namespace Go.Proofs.Ythkpnnbjcendcaa.X
open Go.RowKit Go.Proofs.YthkpnnbjcendcaaW.PrintWords Go.Proofs.YthkpnnbjcendcaaW.PrintLast Go.Proofs.YthkpnnbjcendcaaW.PrintMore
attribute [local go_sem] max2_int min2_int max_two min_two max_three min_three max_four min_four   -- for this text's walks alone
set_option linter.unusedVariables false
set_option linter.unusedSimpArgs false

attribute [local go_sem high] eqA52
/-! ### marigraphref04_Same: function 43 -/
def marigraphref04_Same.l0 : Nat → List (S52) → List (S52) → Int → Option (Bool)
  | 0, _, _, _ => none
  | k + 1, x0, x1, x5 => if x5 < (x0.length : Int) then (if 0 ≤ x5 then (if x5 < (x1.length : Int) then (if (!(((rd_T52 x0 x5).f0) == ((rd_T52 x1 x5).f0)) || (!(((rd_T52 x0 x5).f1) == ((rd_T52 x1 x5).f1)))) = true then (some false) else (marigraphref04_Same.l0 k x0 x1 (wrap64 (x5 + 1)))) else (none)) else (none)) else (some true)
def marigraphref04_Same.f (k : Nat) (l0 : List (S52)) (l1 : List (S52)) : Option (Bool) := if (l0.length : Int) = (l1.length : Int) then (marigraphref04_Same.l0 k l0 l1 0) else (some false)
theorem marigraphref04_Same.mono_l : ∀ k, (∀ y0 y1 y2, LeO (marigraphref04_Same.l0 k y0 y1 y2) (marigraphref04_Same.l0 (k + 1) y0 y1 y2))
  | 0 => fun _ _ _ r h => by simp [marigraphref04_Same.l0] at h
  | k + 1 => by
    have ih0 := marigraphref04_Same.mono_l k
    · intro y0 y1 y2
      unfold marigraphref04_Same.l0
      repeat' first
      | (with_reducible exact ih0 _ _ _)
      | (with_reducible exact LeO.refl _)
      | (with_reducible exact LeO.none _)
      | (with_reducible refine LeO.ite ?_ ?_)
      | (with_reducible refine LeO.bind ?_ (fun _ => ?_))
      | exact ih0 _ _ _
      | exact LeO.none _
      | refine LeO.ite ?_ ?_
      | refine LeO.bind ?_ (fun _ => ?_)
theorem marigraphref04_Same.mono : ∀ a0 a1 k, LeO (marigraphref04_Same.f k a0 a1) (marigraphref04_Same.f (k + 1) a0 a1) := by
  intro a0 a1 k
  have ih0 := marigraphref04_Same.mono_l k
  unfold marigraphref04_Same.f
  repeat' first
      | (with_reducible exact ih0 _ _ _)
      | (with_reducible exact LeO.refl _)
      | (with_reducible exact LeO.none _)
      | (with_reducible refine LeO.ite ?_ ?_)
      | (with_reducible refine LeO.bind ?_ (fun _ => ?_))
      | exact ih0 _ _ _
      | exact LeO.none _
      | refine LeO.ite ?_ ?_
      | refine LeO.bind ?_ (fun _ => ?_)
end Go.Proofs.Ythkpnnbjcendcaa.X
end

