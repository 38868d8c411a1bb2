/- Bits laid into bytes one by one. -/
import Derived.Test.YthkpnnbjcendcaaBt
set_option linter.unusedVariables false
open Go.RowKit Go.Proofs.Ythkpnnbjcendcaa.X Go.Proofs.Ythkpnnbjcendcaa.Pl Go.Proofs.YthkpnnbjcendcaaW.PrintWords Go.Proofs.YthkpnnbjcendcaaW.PrintLast Go.Proofs.YthkpnnbjcendcaaW.PrintMore
namespace Go.Proofs.Ythkpnnbjcendcaa.Pure
/-- The first bits, in so many bytes. -/
def packN (m : Nat) (L : List Bool) : List Int := (List.range m).map fun i => (byteOf (fun j => L.getD (8 * i + j) false) : Int)
theorem packN_nil (m : Nat) : packN m [] = List.replicate m 0 := by
  refine List.ext_getElem (by simp [packN]) ?_
  intro i h1 h2
  simp [packN, byteOf, b2]
theorem packN_length (m : Nat) (L : List Bool) : (packN m L).length = m := by simp [packN]
theorem packN_false (m : Nat) (L : List Bool) : packN m (L ++ [false]) = packN m L := by
  have : ∀ q, (L ++ [false]).getD q false = L.getD q false := by
    intro q
    simp only [List.getD_eq_getElem?_getD]
    by_cases h : q < L.length
    · rw [List.getElem?_append_left h]
    · rw [List.getElem?_append_right (by omega), List.getElem?_eq_none (l := L) (by omega)]
      by_cases h2 : q - L.length = 0
      · rw [h2]; rfl
      · rw [List.getElem?_eq_none (by simp; omega)]
  unfold packN
  simp only [this]
theorem packN_true (m : Nat) (L : List Bool) (h : L.length / 8 < m) :
    packN m (L ++ [true]) = (packN m L).set (L.length / 8) ((packN m L).getD (L.length / 8) 0 + 128 / 2 ^ (L.length % 8)) ∧ (packN m L).getD (L.length / 8) 0 + 128 / 2 ^ (L.length % 8) ≤ 255 ∧ 0 ≤ (packN m L).getD (L.length / 8) 0 := by
  have hg : ∀ q, q ≠ L.length → (L ++ [true]).getD q false = L.getD q false := by
    intro q hq
    simp only [List.getD_eq_getElem?_getD]
    by_cases h : q < L.length
    · rw [List.getElem?_append_left h]
    · rw [List.getElem?_append_right (by omega), List.getElem?_eq_none (l := L) (by omega), List.getElem?_eq_none (by simp; omega)]
  have ht : (L ++ [true]).getD L.length false = true := by simp [List.getD_eq_getElem?_getD]
  have hf : L.getD L.length false = false := by simp [List.getD_eq_getElem?_getD]
  have hd : (packN m L).getD (L.length / 8) 0 = (byteOf (fun j => L.getD (8 * (L.length / 8) + j) false) : Int) := by
    rw [List.getD_eq_getElem?_getD]
    simp [packN, h]
  have key : byteOf (fun j => (L ++ [true]).getD (8 * (L.length / 8) + j) false) = byteOf (fun j => L.getD (8 * (L.length / 8) + j) false) + 128 / 2 ^ (L.length % 8) := by
    unfold byteOf
    have e : L.length = 8 * (L.length / 8) + L.length % 8 := by omega
    have h8 := Nat.mod_lt L.length (show 0 < 8 by decide)
    have h0 := hg (8 * (L.length / 8) + 0)
    have h1 := hg (8 * (L.length / 8) + 1)
    have h2 := hg (8 * (L.length / 8) + 2)
    have h3 := hg (8 * (L.length / 8) + 3)
    have h4 := hg (8 * (L.length / 8) + 4)
    have h5 := hg (8 * (L.length / 8) + 5)
    have h6 := hg (8 * (L.length / 8) + 6)
    have h7 := hg (8 * (L.length / 8) + 7)
    generalize L.length / 8 = a at *
    generalize L.length % 8 = r at *
    rw [e] at ht hf
    rcases (by omega : r = 0 ∨ r = 1 ∨ r = 2 ∨ r = 3 ∨ r = 4 ∨ r = 5 ∨ r = 6 ∨ r = 7) with rfl | rfl | rfl | rfl | rfl | rfl | rfl | rfl <;>
      simp_all [b2] <;> omega
  have hlt := byteOf_lt (fun j => (L ++ [true]).getD (8 * (L.length / 8) + j) false)
  rw [hd]
  refine ⟨?_, ?_, by omega⟩
  · refine List.ext_getElem (by simp [packN]) ?_
    intro i h1 h2
    rw [List.getElem_set]
    have hi : i < m := by simpa [packN] using h1
    by_cases hi2 : L.length / 8 = i
    · rw [if_pos hi2]
      subst hi2
      simp only [packN, List.getElem_map, List.getElem_range]
      rw [key]
      simp
    · rw [if_neg hi2]
      simp only [packN, List.getElem_map, List.getElem_range]
      unfold byteOf
      dsimp only
      rw [hg (8 * i + 0) (by omega), hg (8 * i + 1) (by omega), hg (8 * i + 2) (by omega), hg (8 * i + 3) (by omega), hg (8 * i + 4) (by omega), hg (8 * i + 5) (by omega), hg (8 * i + 6) (by omega), hg (8 * i + 7) (by omega)]
  · rw [key] at hlt
    have : ((byteOf (fun j => L.getD (8 * (L.length / 8) + j) false) + 128 / 2 ^ (L.length % 8) : Nat) : Int) ≤ 255 := by omega
    simpa using this
end Go.Proofs.Ythkpnnbjcendcaa.Pure
