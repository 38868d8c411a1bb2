/- Seconds, one by one. -/
import Derived.Test.YthkpnnbjcendcaaPs
set_option linter.unusedVariables false
open Go.RowKit Go.Proofs.Ythkpnnbjcendcaa.X Go.Proofs.Ythkpnnbjcendcaa.Pl Go.Proofs.YthkpnnbjcendcaaW.PrintWords Go.Proofs.YthkpnnbjcendcaaW.PrintLast Go.Proofs.YthkpnnbjcendcaaW.PrintMore
namespace Go.Proofs.Ythkpnnbjcendcaa.Pure
theorem secs_get (l : List Int) : ∀ (a b : Int) (j : Nat), j < l.length →
    (secs a b l).getD j 0 = if j = 0 then wrap64 (wrap64 (l.getD 0 0 - a) - b) else if j = 1 then wrap64 (wrap64 (l.getD 1 0 - l.getD 0 0) - wrap64 (l.getD 0 0 - a)) else wrap64 (wrap64 (l.getD j 0 - l.getD (j - 1) 0) - wrap64 (l.getD (j - 1) 0 - l.getD (j - 2) 0)) := by
  induction l with
  | nil => intro a b j h; simp at h
  | cons x l ih =>
    intro a b j h
    rw [secs]
    match j with
    | 0 => simp
    | 1 =>
      have := ih x (wrap64 (x - a)) 0 (by simp only [List.length_cons] at h; omega)
      simp only [List.getD_cons_succ, List.getD_cons_zero] at this ⊢
      rw [this]
      simp
    | 2 =>
      have := ih x (wrap64 (x - a)) 1 (by simp only [List.length_cons] at h; omega)
      simp only [List.getD_cons_succ, List.getD_cons_zero] at this ⊢
      rw [this]
      simp
    | (j + 3) =>
      have := ih x (wrap64 (x - a)) (j + 2) (by simp only [List.length_cons] at h; omega)
      simp only [List.getD_cons_succ] at this ⊢
      rw [this, if_neg (by omega), if_neg (by omega), if_neg (by omega), if_neg (by omega)]
      rw [show j + 2 - 1 = j + 1 by omega, show j + 2 - 2 = j by omega, show j + 3 - 1 = (j + 1) + 1 by omega, show j + 3 - 2 = j + 1 by omega]
      simp only [List.getD_cons_succ]
theorem rd_get (l : List Int) (j : Nat) : rd l (j : Int) = l.getD j 0 := by unfold rd; rw [Int.toNat_natCast]
/-- Numbers with steps that are all the same. -/
def lineL (n step : Int) (k : Nat) : List Int := (List.range k).map fun (i : Nat) => wrap64 (n + wrap64 ((i : Int) * step))
theorem lineL_length (n step : Int) (k : Nat) : (lineL n step k).length = k := by simp [lineL]
theorem lineL_snoc (n step : Int) (k : Nat) : lineL n step (k + 1) = lineL n step k ++ [wrap64 (n + wrap64 ((k : Int) * step))] := by
  unfold lineL
  rw [List.range_succ, List.map_append]
  rfl
theorem lineL_get (n step : Int) (k j : Nat) (h : j < k) : (lineL n step k).getD j 0 = wrap64 (n + wrap64 ((j : Int) * step)) := by
  rw [List.getD_eq_getElem?_getD]
  simp [lineL, h]
theorem wrap_id {x : Int} (h : fits64 x) : wrap64 x = x := by unfold fits64 at h; unfold wrap64; omega
theorem line_secs (n step : Int) (k : Nat) (hn : fits64 n) (hs : fits64 step) (j : Nat) (h : j < k) :
    (secs 0 0 (lineL n step k)).getD j 0 = if j = 0 then n else if j = 1 then wrap64 (step - n) else 0 := by
  rw [secs_get _ _ _ _ (by rw [lineL_length]; exact h)]
  unfold fits64 at hn hs
  match j with
  | 0 =>
    rw [if_pos rfl, if_pos rfl, lineL_get _ _ _ _ h]
    simp
    unfold wrap64
    omega
  | 1 =>
    rw [if_neg (by omega), if_pos rfl, if_neg (by omega), if_pos rfl, lineL_get _ _ _ _ h, lineL_get _ _ _ _ (by omega)]
    simp
    unfold wrap64
    omega
  | (j + 2) =>
    rw [if_neg (by omega), if_neg (by omega), if_neg (by omega), if_neg (by omega), lineL_get _ _ _ _ h, show j + 2 - 1 = j + 1 by omega, show j + 2 - 2 = j by omega, lineL_get _ _ _ _ (by omega), lineL_get _ _ _ _ (by omega)]
    have e1 : ((j + 2 : Nat) : Int) * step = (j : Int) * step + step + step := by rw [Int.natCast_add, Int.add_mul]; omega
    have e2 : ((j + 1 : Nat) : Int) * step = (j : Int) * step + step := by rw [Int.natCast_add, Int.add_mul]; omega
    rw [e1, e2]
    generalize (j : Int) * step = y
    unfold wrap64
    omega
end Go.Proofs.Ythkpnnbjcendcaa.Pure
