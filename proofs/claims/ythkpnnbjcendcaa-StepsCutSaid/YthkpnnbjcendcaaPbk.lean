/- What was put is there: the bits of numbers put one behind the other. -/
import Derived.Test.YthkpnnbjcendcaaGa
set_option linter.unusedVariables false
open Go.RowKit Go.Proofs.Ythkpnnbjcendcaa.X Go.Proofs.Ythkpnnbjcendcaa.Pl Go.Proofs.YthkpnnbjcendcaaW.PrintWords Go.Proofs.YthkpnnbjcendcaaW.PrintLast Go.Proofs.YthkpnnbjcendcaaW.PrintMore
namespace Go.Proofs.Ythkpnnbjcendcaa.Pure
theorem val_of (b : List Int) (p : Nat) : ∀ (w n : Nat), (∀ j, j < w → bt b (p + j) = n / 2 ^ (w - 1 - j) % 2) → val b p w = n % 2 ^ w
  | 0, n, _ => by simp [val, Nat.mod_one]
  | w + 1, n, h => by
    have h1 := val_of b p w (n / 2) (fun j hj => by
      rw [h j (by omega), Nat.div_div_eq_div_mul, ← Nat.pow_succ']
      rw [show (w - 1 - j).succ = w + 1 - 1 - j by omega])
    have h2 := h w (by omega)
    rw [show w + 1 - 1 - w = 0 by omega, Nat.pow_zero, Nat.div_one] at h2
    rw [val, h1, h2, Nat.pow_succ', Nat.mod_mul]
    omega
theorem val_pack (A B : List Bool) (n w : Nat) (hn : n < 2 ^ w) : val (pack (A ++ nb n w ++ B)) A.length w = n := by
  rw [val_of _ _ w n, Nat.mod_eq_of_lt hn]
  intro j hj
  have hlen : (A ++ nb n w ++ B).length = A.length + w + B.length := by rw [List.length_append, List.length_append, nb_length]
  rw [pack_bt _ _ (by rw [pack_length, hlen]; omega), List.append_assoc, List.getD_eq_getElem?_getD, List.getElem?_append_right (by omega), List.getElem?_append_left (by rw [nb_length]; omega), ← List.getD_eq_getElem?_getD, show A.length + j - A.length = j by omega, nb_getD hj]
theorem byt_pack (L : List Bool) : Byt (pack L) := by
  intro x hx
  unfold pack at hx
  obtain ⟨i, _, rfl⟩ := List.mem_map.1 hx
  have := byteOf_lt (fun j => L.getD (8 * i + j) false)
  omega
theorem clr_pack (L : List Bool) : clr (pack L) (L.length : Int) = true := by
  unfold clr
  rw [if_neg (by omega)]
  simp only [decide_eq_true_eq]
  intro q hq hm
  rw [pack_bt L q hq, List.getD_eq_getElem?_getD, List.getElem?_eq_none (by omega)]
  rfl
end Go.Proofs.Ythkpnnbjcendcaa.Pure
