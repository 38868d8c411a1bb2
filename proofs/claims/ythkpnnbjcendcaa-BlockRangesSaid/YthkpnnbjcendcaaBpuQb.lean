-- Made by wip/bs/put.py out of the widened print's text for a like function. Lean checks it.
import Derived.Test.YthkpnnbjcendcaaX0Qb
namespace Go.Proofs.Ythkpnnbjcendcaa.X
open Go.RowKit Go.Proofs.YthkpnnbjcendcaaW.PrintWords Go.Proofs.YthkpnnbjcendcaaW.PrintLast Go.Proofs.YthkpnnbjcendcaaW.PrintMore
attribute [local go_sem] max2_int min2_int max_two min_two max_three min_three max_four min_four   -- for this text's walks alone
set_option linter.unusedVariables false
set_option linter.unusedSimpArgs false

/-! ### bits_Bits_Put: function 20 -/
mutual
def bits_Bits_Put.j0 : Nat → List Int → Int → Int → Int → Bool → Option (Int × List Int × Int)
  | 0, _, _, _, _, _ => none
  | k + 1, x0, x1, x2, x3, x14 => if x14 = true then (some (20, x0, x1)) else (if x3 < 64 then (if 0 ≤ x3 then (bits_Bits_Put.j1 k x0 x1 x2 x3 ((shr .u64 x2 x3) != 0)) else (none)) else (bits_Bits_Put.j1 k x0 x1 x2 x3 false))
def bits_Bits_Put.j1 : Nat → List Int → Int → Int → Int → Bool → Option (Int × List Int × Int)
  | 0, _, _, _, _, _ => none
  | k + 1, x0, x1, x2, x3, x21 => if x21 = true then (some (1, x0, x1)) else (if x1 > (wrap64 (262144 - x3)) then (some (3, x0, x1)) else (bits_Bits_Put.l0 k x0 x1 x2 x3))
def bits_Bits_Put.l0 : Nat → List Int → Int → Int → Int → Option (Int × List Int × Int)
  | 0, _, _, _, _ => none
  | k + 1, x0, x1, x2, x7 => if x7 > 0 then (if (wrap64 (8 - (Int.tmod x1 8))) = 8 then (if x0.length < 140737488355328 then ((some (x0 ++ [0] : List Int)).bind fun y101 => (if 0 ≤ (wrap64 (x7 - (mn (wrap64 (8 - (Int.tmod x1 8))) x7))) then (if 0 ≤ (wrap64 (8 - (mn (wrap64 (8 - (Int.tmod x1 8))) x7))) then (if 0 ≤ (wrap64 ((y101.length : Int) - 1)) then (if (wrap64 ((y101.length : Int) - 1)) < (y101.length : Int) then (if 0 ≤ (wrap64 ((wrap64 (8 - (Int.tmod x1 8))) - (mn (wrap64 (8 - (Int.tmod x1 8))) x7))) then (bits_Bits_Put.l0 k (y101.set ((wrap64 ((y101.length : Int) - 1)) : Int).toNat (Go.bits .or .u8 (rd y101 (wrap64 ((y101.length : Int) - 1))) (shl .u8 (Go.bits .and .u8 ((shr .u64 x2 (wrap64 (x7 - (mn (wrap64 (8 - (Int.tmod x1 8))) x7)))) % 256) (shr .u8 255 (wrap64 (8 - (mn (wrap64 (8 - (Int.tmod x1 8))) x7))))) (wrap64 ((wrap64 (8 - (Int.tmod x1 8))) - (mn (wrap64 (8 - (Int.tmod x1 8))) x7)))))) (wrap64 (x1 + (mn (wrap64 (8 - (Int.tmod x1 8))) x7))) x2 (wrap64 (x7 - (mn (wrap64 (8 - (Int.tmod x1 8))) x7)))) else (none)) else (none)) else (none)) else (none)) else (none))) else (none)) else (if 0 ≤ (wrap64 (x7 - (mn (wrap64 (8 - (Int.tmod x1 8))) x7))) then (if 0 ≤ (wrap64 (8 - (mn (wrap64 (8 - (Int.tmod x1 8))) x7))) then (if 0 ≤ (wrap64 ((x0.length : Int) - 1)) then (if (wrap64 ((x0.length : Int) - 1)) < (x0.length : Int) then (if 0 ≤ (wrap64 ((wrap64 (8 - (Int.tmod x1 8))) - (mn (wrap64 (8 - (Int.tmod x1 8))) x7))) then (bits_Bits_Put.l0 k (x0.set ((wrap64 ((x0.length : Int) - 1)) : Int).toNat (Go.bits .or .u8 (rd x0 (wrap64 ((x0.length : Int) - 1))) (shl .u8 (Go.bits .and .u8 ((shr .u64 x2 (wrap64 (x7 - (mn (wrap64 (8 - (Int.tmod x1 8))) x7)))) % 256) (shr .u8 255 (wrap64 (8 - (mn (wrap64 (8 - (Int.tmod x1 8))) x7))))) (wrap64 ((wrap64 (8 - (Int.tmod x1 8))) - (mn (wrap64 (8 - (Int.tmod x1 8))) x7)))))) (wrap64 (x1 + (mn (wrap64 (8 - (Int.tmod x1 8))) x7))) x2 (wrap64 (x7 - (mn (wrap64 (8 - (Int.tmod x1 8))) x7)))) else (none)) else (none)) else (none)) else (none)) else (none))) else (some (0, x0, x1))
end
def bits_Bits_Put.f (k : Nat) (l0 : List Int) (a1 : Int) (a2 : Int) (a3 : Int) : Option (Int × List Int × Int) := if a3 < 0 then (bits_Bits_Put.j0 k l0 a1 a2 a3 true) else (bits_Bits_Put.j0 k l0 a1 a2 a3 (decide (a3 > 64)))
theorem bits_Bits_Put.mono_l : ∀ k, (∀ y0 y1 y2 y3 y4, LeO (bits_Bits_Put.j0 k y0 y1 y2 y3 y4) (bits_Bits_Put.j0 (k + 1) y0 y1 y2 y3 y4)) ∧ (∀ y0 y1 y2 y3 y4, LeO (bits_Bits_Put.j1 k y0 y1 y2 y3 y4) (bits_Bits_Put.j1 (k + 1) y0 y1 y2 y3 y4)) ∧ (∀ y0 y1 y2 y3, LeO (bits_Bits_Put.l0 k y0 y1 y2 y3) (bits_Bits_Put.l0 (k + 1) y0 y1 y2 y3))
  | 0 => ⟨fun _ _ _ _ _ r h => by simp [bits_Bits_Put.j0] at h, fun _ _ _ _ _ r h => by simp [bits_Bits_Put.j1] at h, fun _ _ _ _ r h => by simp [bits_Bits_Put.l0] at h⟩
  | k + 1 => by
    obtain ⟨ih0, ih1, ih2⟩ := bits_Bits_Put.mono_l k
    refine ⟨?_, ?_, ?_⟩
    · intro y0 y1 y2 y3 y4
      unfold bits_Bits_Put.j0
      repeat' first
      | (with_reducible exact ih0 _ _ _ _ _)
      | (with_reducible exact ih1 _ _ _ _ _)
      | (with_reducible exact ih2 _ _ _ _)
      | (with_reducible exact LeO.refl _)
      | (with_reducible exact LeO.none _)
      | (with_reducible refine LeO.ite ?_ ?_)
      | (with_reducible refine LeO.bind ?_ (fun _ => ?_))
      | exact ih0 _ _ _ _ _
      | exact ih1 _ _ _ _ _
      | exact ih2 _ _ _ _
      | exact LeO.none _
      | refine LeO.ite ?_ ?_
      | refine LeO.bind ?_ (fun _ => ?_)
    · intro y0 y1 y2 y3 y4
      unfold bits_Bits_Put.j1
      repeat' first
      | (with_reducible exact ih0 _ _ _ _ _)
      | (with_reducible exact ih1 _ _ _ _ _)
      | (with_reducible exact ih2 _ _ _ _)
      | (with_reducible exact LeO.refl _)
      | (with_reducible exact LeO.none _)
      | (with_reducible refine LeO.ite ?_ ?_)
      | (with_reducible refine LeO.bind ?_ (fun _ => ?_))
      | exact ih0 _ _ _ _ _
      | exact ih1 _ _ _ _ _
      | exact ih2 _ _ _ _
      | exact LeO.none _
      | refine LeO.ite ?_ ?_
      | refine LeO.bind ?_ (fun _ => ?_)
    · intro y0 y1 y2 y3
      unfold bits_Bits_Put.l0
      repeat' first
      | (with_reducible exact ih0 _ _ _ _ _)
      | (with_reducible exact ih1 _ _ _ _ _)
      | (with_reducible exact ih2 _ _ _ _)
      | (with_reducible exact LeO.refl _)
      | (with_reducible exact LeO.none _)
      | (with_reducible refine LeO.ite ?_ ?_)
      | (with_reducible refine LeO.bind ?_ (fun _ => ?_))
      | exact ih0 _ _ _ _ _
      | exact ih1 _ _ _ _ _
      | exact ih2 _ _ _ _
      | exact LeO.none _
      | refine LeO.ite ?_ ?_
      | refine LeO.bind ?_ (fun _ => ?_)
theorem bits_Bits_Put.mono : ∀ a0 a1 a2 a3 k, LeO (bits_Bits_Put.f k a0 a1 a2 a3) (bits_Bits_Put.f (k + 1) a0 a1 a2 a3) := by
  intro a0 a1 a2 a3 k
  obtain ⟨ih0, ih1, ih2⟩ := bits_Bits_Put.mono_l k
  unfold bits_Bits_Put.f
  repeat' first
      | (with_reducible exact ih0 _ _ _ _ _)
      | (with_reducible exact ih1 _ _ _ _ _)
      | (with_reducible exact ih2 _ _ _ _)
      | (with_reducible exact LeO.refl _)
      | (with_reducible exact LeO.none _)
      | (with_reducible refine LeO.ite ?_ ?_)
      | (with_reducible refine LeO.bind ?_ (fun _ => ?_))
      | exact ih0 _ _ _ _ _
      | exact ih1 _ _ _ _ _
      | exact ih2 _ _ _ _
      | exact LeO.none _
      | refine LeO.ite ?_ ?_
      | refine LeO.bind ?_ (fun _ => ?_)
end Go.Proofs.Ythkpnnbjcendcaa.X

