/- Bits as a list: what bits.Put makes of it, and its bytes. -/
import Derived.Test.YthkpnnbjcendcaaPBp
set_option linter.unusedVariables false
namespace Go.Proofs.Ythkpnnbjcendcaa.Pure
open Go.RowKit Go.Proofs.Ythkpnnbjcendcaa.X Go.Proofs.Ythkpnnbjcendcaa.Pl Go.Proofs.YthkpnnbjcendcaaW.PrintWords Go.Proofs.YthkpnnbjcendcaaW.PrintLast Go.Proofs.YthkpnnbjcendcaaW.PrintMore

/-- A number's lowest bits, the highest of them first. -/
def nb (n w : Nat) : List Bool := (List.range w).map fun j => decide (n / 2 ^ (w - 1 - j) % 2 = 1)
theorem nb_length (n w : Nat) : (nb n w).length = w := by simp [nb]
def b2 (b : Bool) : Nat := if b then 1 else 0
theorem b2_lt (b : Bool) : b2 b < 2 := by cases b <;> decide
/-- Bytes that hold these bits. -/
def Holds (b : List Int) (L : List Bool) : Prop := Hold b L.length ∧ ∀ q, q < L.length → bt b q = b2 (L.getD q false)
theorem holds_nil : Holds [] [] := ⟨hold_nil, fun q hq => absurd hq (by simp)⟩
/-- Put behind bits, if it may be. -/
def putL (L : List Bool) (n w : Int) : List Bool := if putC L.length n w = 0 then L ++ nb n.toNat w.toNat else L
theorem nb_getD {n w j : Nat} (h : j < w) : b2 ((nb n w).getD j false) = n / 2 ^ (w - 1 - j) % 2 := by
  have : (nb n w).getD j false = decide (n / 2 ^ (w - 1 - j) % 2 = 1) := by
    rw [List.getD_eq_getElem?_getD]
    simp [nb, h]
  rw [this]
  unfold b2
  have := Nat.mod_lt (n / 2 ^ (w - 1 - j)) (show 0 < 2 by decide)
  split <;> simp_all
theorem put_evL {b : List Int} {L : List Bool} (h : Holds b L) (n w : Int) (hn : 0 ≤ n ∧ n < 2 ^ 64) (hw : -9223372036854775808 ≤ w ∧ w ≤ 9223372036854775807) :
    ∃ b', Ev (fun k => bits_Bits_Put.f k b (L.length : Int) n w) (putC L.length n w, b', ((putL L n w).length : Int)) ∧ Holds b' (putL L n w) := by
  obtain ⟨b', m', hev, hh, hno, hyes⟩ := put_ev h.1 n w hn hw
  unfold putL
  by_cases h0 : putC L.length n w = 0
  · obtain ⟨rfl, hold, hnew⟩ := hyes h0
    rw [if_pos h0]
    have hl : (L ++ nb n.toNat w.toNat).length = L.length + w.toNat := by rw [List.length_append, nb_length]
    refine ⟨b', by rw [hl]; exact hev, ?_⟩
    unfold Holds
    rw [hl]
    refine ⟨hh, fun q hq => ?_⟩
    by_cases hq1 : q < L.length
    · rw [hold q hq1, h.2 q hq1, List.getD_eq_getElem?_getD, List.getD_eq_getElem?_getD, List.getElem?_append_left hq1]
    · have e := hnew (q - L.length) (by omega)
      rw [show L.length + (q - L.length) = q by omega] at e
      rw [e, List.getD_eq_getElem?_getD, List.getElem?_append_right (by omega), ← List.getD_eq_getElem?_getD, nb_getD (by omega)]
  · obtain ⟨rfl, rfl⟩ := hno h0
    rw [if_neg h0]
    exact ⟨_, hev, h⟩
/-- Eight bits as a byte. -/
def byteOf (f : Nat → Bool) : Nat := b2 (f 0) * 128 + b2 (f 1) * 64 + b2 (f 2) * 32 + b2 (f 3) * 16 + b2 (f 4) * 8 + b2 (f 5) * 4 + b2 (f 6) * 2 + b2 (f 7)
theorem byteOf_bit (f : Nat → Bool) (j : Nat) (hj : j < 8) : byteOf f / 2 ^ (7 - j) % 2 = b2 (f j) := by
  unfold byteOf
  have h0 := b2_lt (f 0)
  have h1 := b2_lt (f 1)
  have h2 := b2_lt (f 2)
  have h3 := b2_lt (f 3)
  have h4 := b2_lt (f 4)
  have h5 := b2_lt (f 5)
  have h6 := b2_lt (f 6)
  have h7 := b2_lt (f 7)
  rcases (by omega : j = 0 ∨ j = 1 ∨ j = 2 ∨ j = 3 ∨ j = 4 ∨ j = 5 ∨ j = 6 ∨ j = 7) with rfl | rfl | rfl | rfl | rfl | rfl | rfl | rfl <;> simp <;> omega
theorem byteOf_lt (f : Nat → Bool) : byteOf f < 256 := by
  unfold byteOf
  have h0 := b2_lt (f 0)
  have h1 := b2_lt (f 1)
  have h2 := b2_lt (f 2)
  have h3 := b2_lt (f 3)
  have h4 := b2_lt (f 4)
  have h5 := b2_lt (f 5)
  have h6 := b2_lt (f 6)
  have h7 := b2_lt (f 7)
  omega
/-- Bits as bytes, 0s behind the last one. -/
def pack (L : List Bool) : List Int := (List.range ((L.length + 7) / 8)).map fun i => (byteOf (fun j => L.getD (8 * i + j) false) : Int)
theorem pack_length (L : List Bool) : (pack L).length = (L.length + 7) / 8 := by simp [pack]
theorem pack_bt (L : List Bool) (q : Nat) (hq : q < 8 * (pack L).length) : bt (pack L) q = b2 (L.getD q false) := by
  unfold bt by_
  rw [pack_length] at hq
  have hi : q / 8 < (L.length + 7) / 8 := by omega
  have : (pack L).getD (q / 8) 0 = (byteOf (fun j => L.getD (8 * (q / 8) + j) false) : Int) := by
    rw [List.getD_eq_getElem?_getD]
    unfold pack
    simp [hi]
  rw [this, Int.toNat_natCast, byteOf_bit _ _ (by omega), show 8 * (q / 8) + q % 8 = q by omega]
theorem holds_pack {L : List Bool} (h : L.length ≤ 262144) : Holds (pack L) L := by
  refine ⟨⟨?_, pack_length L, h, ?_⟩, ?_⟩
  · intro x hx
    unfold pack at hx
    obtain ⟨i, _, rfl⟩ := List.mem_map.1 hx
    have := byteOf_lt (fun j => L.getD (8 * i + j) false)
    omega
  · intro q hq hm
    rw [pack_bt L q hq, List.getD_eq_getElem?_getD, List.getElem?_eq_none (by omega)]
    rfl
  · intro q hq
    exact pack_bt L q (by rw [pack_length]; omega)
theorem holds_eq {b : List Int} {L : List Bool} (h : Holds b L) : b = pack L := by
  have hp := holds_pack h.1.max
  exact hold_ext h.1 hp.1 (fun q hq => by rw [h.2 q hq, hp.2 q hq])
end Go.Proofs.Ythkpnnbjcendcaa.Pure
