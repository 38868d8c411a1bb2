/- Bytes as texts: which are the same. -/
import Derived.Test.YthkpnnbjcendcaaGb
set_option linter.unusedVariables false
open Go.RowKit Go.Proofs.Ythkpnnbjcendcaa.X Go.Proofs.Ythkpnnbjcendcaa.Pl Go.Proofs.YthkpnnbjcendcaaW.PrintWords Go.Proofs.YthkpnnbjcendcaaW.PrintLast Go.Proofs.YthkpnnbjcendcaaW.PrintMore
namespace Go.Proofs.Ythkpnnbjcendcaa.Pure
theorem str_inj {xs ys : List Int} (hx : Byt xs) (hy : Byt ys) : strOfNums xs = strOfNums ys ↔ xs = ys := by
  constructor
  · intro h
    have h1 : (xs.map fun n => UInt8.ofNat n.toNat) = ys.map fun n => UInt8.ofNat n.toNat := by
      rw [← strOfNums_data, ← strOfNums_data, h]
    have key : ∀ l : List Int, Byt l → (l.map fun n => UInt8.ofNat n.toNat).map (fun c => ((c.toNat : Nat) : Int)) = l := by
      intro l hl
      rw [List.map_map]
      conv => rhs; rw [← List.map_id l]
      refine List.map_congr_left fun n hn => ?_
      have := hl n hn
      simp only [Function.comp, id]
      rw [UInt8.toNat_ofNat']
      omega
    rw [← key xs hx, ← key ys hy, h1]
  · rintro rfl
    rfl
/-- Texts compared, as the model does it. -/
theorem bytes_eq {a b : ByteArray} (h : a = b) : (a.toList == b.toList) = true := by subst h; exact beq_self_eq_true _
theorem bytes_ne {a b : ByteArray} (h : a ≠ b) : (a.toList == b.toList) = false := by
  rw [beq_eq_false_iff_ne, ByteArray.toList_eq, ByteArray.toList_eq]
  intro e
  apply h
  cases a; cases b
  congr 1
  exact Array.toList_inj.1 e
theorem varint_byt (n : Nat) : Byt (varint n) := by
  induction n using Nat.strongRecOn with
  | _ n ih =>
    intro x hx
    by_cases h : n < 128
    · rw [varint_small h] at hx
      obtain rfl := List.mem_singleton.1 hx
      omega
    · rw [varint_big h] at hx
      rcases List.mem_cons.1 hx with rfl | hx
      · omega
      · exact ih (n / 128) (by omega) x hx
end Go.Proofs.Ythkpnnbjcendcaa.Pure
