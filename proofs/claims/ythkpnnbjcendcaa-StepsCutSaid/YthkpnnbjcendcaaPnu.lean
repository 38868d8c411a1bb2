/- The number at the head of bytes, read byte by byte. -/
import Derived.Test.YthkpnnbjcendcaaPdp
import Derived.Test.YthkpnnbjcendcaaL64
import Derived.Laws.BitsAllLaws
set_option linter.unusedVariables false
set_option linter.unusedSimpArgs false
open Go.RowKit Go.Proofs.Ythkpnnbjcendcaa.X Go.Proofs.Ythkpnnbjcendcaa.Pl Go.Proofs.YthkpnnbjcendcaaW.PrintWords Go.Proofs.YthkpnnbjcendcaaW.PrintLast Go.Proofs.YthkpnnbjcendcaaW.PrintMore
namespace Go.Proofs.Ythkpnnbjcendcaa.Pure
/-- L is how many bits n has. -/
def Long (n L : Nat) : Prop := n < 2 ^ L ∧ (L = 0 ∨ 2 ^ (L - 1) ≤ n)
theorem long_shift {n k L : Nat} (h : Long (n / 2 ^ k) L) (hL : L ≠ 0) : Long n (L + k) := by
  obtain ⟨h1, h2⟩ := h
  refine ⟨?_, .inr ?_⟩
  · rw [Nat.pow_add]
    exact (Nat.div_lt_iff_lt_mul (Nat.two_pow_pos k)).1 h1
  · rcases h2 with h2 | h2
    · exact absurd h2 hL
    · rw [show L + k - 1 = (L - 1) + k by omega, Nat.pow_add]
      exact (Nat.le_div_iff_mul_le (Nat.two_pow_pos k)).1 h2
def tabN (x : Nat) : Nat := if x = 0 then 0 else if x < 2 then 1 else if x < 4 then 2 else if x < 8 then 3 else if x < 16 then 4 else if x < 32 then 5 else if x < 64 then 6 else if x < 128 then 7 else 8
set_option maxRecDepth 100000 in
theorem tab_all : ∀ x : Nat, x < 256 → Go.Proofs.YthkpnnbjcendcaaW.PrintWords.bt lenTab (x : Int) = ((tabN x : Nat) : Int) := by decide +kernel
theorem tab_long {x : Nat} (h : x < 256) : Long x (tabN x) := by
  unfold tabN Long
  (repeat' split) <;> simp <;> omega
theorem tab_pos {x : Nat} (h : 0 < x) : tabN x ≠ 0 := by
  unfold tabN
  (repeat' split) <;> omega
theorem tab_le (x : Nat) : tabN x ≤ 8 := by
  unfold tabN
  (repeat' split) <;> omega
theorem len_j0 (k : Nat) (x : Nat) (z : Nat) (hx : x < 4294967296) (hz : z ≤ 32) : ∃ L : Nat, bits_Len64.j0 (k + 1) (x : Int) (z : Int) = some ((z + L : Nat) : Int) ∧ Long x L ∧ L ≤ 32 := by
  rw [bits_Len64.j0]
  by_cases c0 : x ≥ 65536
  · rw [if_pos (by omega)]
    by_cases c1 : x / 65536 ≥ 256
    · rw [if_pos (by omega)]
      have e : ((x : Int) / 65536 / 256) % 256 = ((x / 2 ^ 24 : Nat) : Int) := by omega
      rw [e, if_pos (by omega), if_pos (by omega), tab_all _ (by omega)]
      have hp := tab_pos (x := x / 2 ^ 24) (by omega)
      have h8 := tab_le (x / 2 ^ 24)
      have hl := long_shift (tab_long (x := x / 2 ^ 24) (by omega)) hp
      generalize tabN (x / 2 ^ 24) = t at *
      refine ⟨t + 24, ?_, hl, by omega⟩
      rw [w64 (x := (z : Int) + 16) (by omega) (by omega), w64 (x := (z : Int) + 16 + 8) (by omega) (by omega), w64 (x := (t : Int)) (by omega) (by omega), w64 (by omega) (by omega)]
      congr 1
      omega
    · rw [if_neg (by omega)]
      have e : ((x : Int) / 65536) % 256 = ((x / 2 ^ 16 : Nat) : Int) := by omega
      rw [e, if_pos (by omega), if_pos (by omega), tab_all _ (by omega)]
      have hp := tab_pos (x := x / 2 ^ 16) (by omega)
      have h8 := tab_le (x / 2 ^ 16)
      have hl := long_shift (tab_long (x := x / 2 ^ 16) (by omega)) hp
      generalize tabN (x / 2 ^ 16) = t at *
      refine ⟨t + 16, ?_, hl, by omega⟩
      rw [w64 (x := (z : Int) + 16) (by omega) (by omega), w64 (x := (t : Int)) (by omega) (by omega), w64 (by omega) (by omega)]
      congr 1
      omega
  · rw [if_neg (by omega)]
    by_cases c1 : x ≥ 256
    · rw [if_pos (by omega)]
      have e : ((x : Int) / 256) % 256 = ((x / 2 ^ 8 : Nat) : Int) := by omega
      rw [e, if_pos (by omega), if_pos (by omega), tab_all _ (by omega)]
      have hp := tab_pos (x := x / 2 ^ 8) (by omega)
      have h8 := tab_le (x / 2 ^ 8)
      have hl := long_shift (tab_long (x := x / 2 ^ 8) (by omega)) hp
      generalize tabN (x / 2 ^ 8) = t at *
      refine ⟨t + 8, ?_, hl, by omega⟩
      rw [w64 (x := (z : Int) + 8) (by omega) (by omega), w64 (x := (t : Int)) (by omega) (by omega), w64 (by omega) (by omega)]
      congr 1
      omega
    · rw [if_neg (by omega)]
      have e : (x : Int) % 256 = (x : Int) := by omega
      rw [e, if_pos (by omega), if_pos (by omega), tab_all _ (by omega)]
      have h8 := tab_le x
      have hl := tab_long (x := x) (by omega)
      generalize tabN x = t at *
      refine ⟨t, ?_, hl, by omega⟩
      rw [w64 (x := (t : Int)) (by omega) (by omega), w64 (by omega) (by omega)]
      congr 1
theorem len_ev (k : Nat) (n : Nat) (hn : n < 2 ^ 64) : ∃ L : Nat, bits_Len64.f (k + 1) (n : Int) = some (L : Int) ∧ Long n L ∧ L ≤ 64 := by
  unfold bits_Len64.f
  by_cases c : n ≥ 4294967296
  · rw [if_pos (by omega)]
    obtain ⟨L, h1, h2, h3⟩ := len_j0 k (n / 2 ^ 32) 32 (by omega) (by decide)
    rw [show (n : Int) / 4294967296 = ((n / 2 ^ 32 : Nat) : Int) by omega]
    have hL : L ≠ 0 := by
      rintro rfl
      have := h2.1
      simp at this
      omega
    refine ⟨L + 32, ?_, long_shift h2 hL, by omega⟩
    rw [show (32 : Int) = ((32 : Nat) : Int) from rfl, h1]
    congr 2
    omega
  · rw [if_neg (by omega)]
    obtain ⟨L, h1, h2, h3⟩ := len_j0 k n 0 (by omega) (by decide)
    refine ⟨L, ?_, h2, by omega⟩
    rw [show (0 : Int) = ((0 : Nat) : Int) from rfl, h1, Nat.zero_add]
/-- Would fewer bytes do? -/
theorem long_groups {n L i : Nat} (h : Long n L) (hn : n < 2 ^ (7 * (i + 1))) : i + 1 = max 1 ((L + 6) / 7) ↔ i = 0 ∨ 2 ^ (7 * i) ≤ n := by
  obtain ⟨h1, h2⟩ := h
  have hle : L ≤ 7 * (i + 1) := by
    rcases h2 with rfl | h2
    · omega
    · have := Nat.lt_of_le_of_lt h2 hn
      have := (Nat.pow_lt_pow_iff_right (by decide)).1 this
      omega
  by_cases hb : 2 ^ (7 * i) ≤ n
  · have := (Nat.pow_lt_pow_iff_right (by decide)).1 (Nat.lt_of_le_of_lt hb h1)
    omega
  · have : L ≤ 7 * i := by
      rcases h2 with rfl | h2
      · omega
      · have := (Nat.pow_lt_pow_iff_right (by decide)).1 (Nat.lt_of_le_of_lt h2 (Nat.lt_of_not_le hb))
        omega
    omega
/-- So many bytes are read, that come to so much, and more follow. -/
def Some7 (b : List Int) (i acc : Nat) : Prop := acc < 128 ^ i ∧ ∀ m r, b = varint m ++ r ↔ ∃ q, m = acc + 128 ^ i * q ∧ (i = 0 ∨ 0 < q) ∧ b.drop i = varint q ++ r
theorem some_start (b : List Int) : Some7 b 0 0 := by
  refine ⟨by decide, fun m r => ⟨fun h => ⟨m, by simp, .inl rfl, by simpa using h⟩, ?_⟩⟩
  rintro ⟨q, h1, _, h3⟩
  have : m = q := by simpa using h1
  subst this
  simpa using h3
theorem drop_at {b : List Int} {i : Nat} {c : Nat} (hi : i < b.length) (hc : b.getD i 0 = (c : Int)) : b.drop i = (c : Int) :: b.drop (i + 1) := by
  rw [List.drop_eq_getElem_cons hi, ← hc, List.getD_eq_getElem?_getD, List.getElem?_eq_getElem hi]
  rfl
theorem some_more {b : List Int} {i acc c : Nat} (h : Some7 b i acc) (hi : i < b.length) (hc : b.getD i 0 = (c : Int)) (hc1 : 128 ≤ c) (hc2 : c < 256) : Some7 b (i + 1) (acc + (c % 128) * 128 ^ i) := by
  obtain ⟨h1, h2⟩ := h
  have hcm : c % 128 = c - 128 := by omega
  refine ⟨?_, fun m r => ?_⟩
  · have : c % 128 ≤ 127 := by omega
    have := Nat.mul_le_mul_right (128 ^ i) this
    rw [Nat.pow_succ]
    omega
  · rw [h2 m r, drop_at hi hc]
    constructor
    · rintro ⟨q, e1, e2, e3⟩
      by_cases hq : q < 128
      · rw [varint_small hq] at e3
        simp only [List.cons_append, List.nil_append, List.cons.injEq] at e3
        omega
      · rw [varint_big hq] at e3
        simp only [List.cons_append, List.cons.injEq] at e3
        refine ⟨q / 128, ?_, .inr (by omega), e3.2⟩
        have e4 : q = c % 128 + 128 * (q / 128) := by omega
        rw [e1, Nat.pow_succ]
        conv => lhs; rw [e4]
        rw [Nat.mul_add, Nat.mul_comm (128 ^ i) (c % 128), Nat.mul_assoc (128 ^ i) 128, Nat.add_assoc]
    · rintro ⟨q, e1, e2, e3⟩
      refine ⟨c % 128 + 128 * q, ?_, .inr (by omega), ?_⟩
      · rw [e1, Nat.pow_succ, Nat.mul_add, Nat.mul_comm (128 ^ i) (c % 128), Nat.mul_assoc (128 ^ i) 128, Nat.add_assoc]
      · rw [varint_big (by omega), show (c % 128 + 128 * q) / 128 = q by omega, show (c % 128 + 128 * q) % 128 + 128 = c by omega, e3]
        rfl
theorem some_end {b : List Int} {i acc c : Nat} (h : Some7 b i acc) (hi : i < b.length) (hc : b.getD i 0 = (c : Int)) (hc1 : c < 128) (m : Nat) (r : List Int) : b = varint m ++ r ↔ m = acc + c * 128 ^ i ∧ (i = 0 ∨ 0 < c) ∧ r = b.drop (i + 1) := by
  rw [h.2 m r, drop_at hi hc]
  constructor
  · rintro ⟨q, e1, e2, e3⟩
    by_cases hq : q < 128
    · rw [varint_small hq] at e3
      simp only [List.cons_append, List.nil_append, List.cons.injEq] at e3
      have : q = c := by omega
      subst this
      exact ⟨by rw [e1, Nat.mul_comm], e2, e3.2.symm⟩
    · rw [varint_big hq] at e3
      simp only [List.cons_append, List.cons.injEq] at e3
      omega
  · rintro ⟨e1, e2, e3⟩
    exact ⟨c, by rw [e1, Nat.mul_comm], e2, by rw [varint_small hc1, e3]; rfl⟩
theorem varint_ne (q : Nat) (r : List Int) : varint q ++ r ≠ [] := by
  by_cases h : q < 128
  · rw [varint_small h]; simp
  · rw [varint_big h]; simp
theorem some_out {b : List Int} {i acc : Nat} (h : Some7 b i acc) (hi : b.length ≤ i) (m : Nat) (r : List Int) : b ≠ varint m ++ r := by
  intro e
  obtain ⟨q, _, _, e3⟩ := (h.2 m r).1 e
  rw [List.drop_of_length_le hi] at e3
  exact varint_ne _ _ e3.symm
/-- The tenth byte may be a 1 alone. -/
theorem some_ten {b : List Int} {acc c : Nat} (h : Some7 b 9 acc) (hi : 9 < b.length) (hc : b.getD 9 0 = (c : Int)) (hc1 : 1 < c) (hc2 : c < 256) (m : Nat) (r : List Int) (hm : m < 2 ^ 64) : b ≠ varint m ++ r := by
  intro e
  by_cases hc3 : c < 128
  · have := ((some_end h hi hc hc3 m r).1 e).1
    have h9 : (128 : Nat) ^ 9 = 9223372036854775808 := by decide
    rw [h9] at this
    omega
  · obtain ⟨q, e1, e2, _⟩ := ((some_more h hi hc (by omega) hc2).2 m r).1 e
    have h9 : (128 : Nat) ^ (9 + 1) = 1180591620717411303424 := by decide
    rw [h9] at e1
    omega
/-- The program's words for a byte's lowest seven bits, and its highest. -/
theorem low7_all : ∀ x, x < 256 → (x &&& (255 - 128)) = x % 128 := by decide +kernel
theorem low7 {c : Nat} (h : c < 256) : Go.bits .andNot .u8 (c : Int) 128 = ((c % 128 : Nat) : Int) := by
  have := u8_andNot_nat c 128 h (by decide)
  rw [low7_all c h] at this
  exact this
theorem high_all : ∀ x, x < 256 → (x &&& 128) = if x < 128 then 0 else 128 := by decide +kernel
theorem high1 {c : Nat} (h : c < 256) : Go.bits .and .u8 (c : Int) 128 = if c < 128 then 0 else 128 := by
  have := (bits_nat .u8 8 (by decide) wraps_u8 c 128 h (by decide)).1
  rw [high_all c h] at this
  rw [show (128 : Int) = ((128 : Nat) : Int) from rfl, this]
  split <;> rfl
/-- What a byte adds. -/
theorem or_add {acc i c : Nat} (ha : acc < 2 ^ (7 * i)) (hc : c * 2 ^ (7 * i) < 2 ^ 64) (hi : i ≤ 9) : Go.bits .or .u64 (acc : Int) (shl .u64 (c : Int) ((7 * i : Nat) : Int)) = ((acc + c * 2 ^ (7 * i) : Nat) : Int) := by
  have e1 : min ((7 * i : Nat) : Int).toNat IntKind.u64.bits = 7 * i := by
    rw [Int.toNat_natCast]; exact Nat.min_eq_left (by show _ ≤ 64; omega)
  have hcc : (c : Int) * 2 ^ (7 * i) = ((c * 2 ^ (7 * i) : Nat) : Int) := by simp
  unfold shl
  rw [e1, hcc, w_u64 (Int.natCast_nonneg _) (by exact_mod_cast hc)]
  have h64 : acc < 2 ^ 64 := Nat.lt_of_lt_of_le ha (Nat.pow_le_pow_right (by decide) (by omega))
  have := (bits_nat .u64 64 (by decide) (fun n h0 h1 => w_u64 h0 h1) acc (c * 2 ^ (7 * i)) h64 hc).2
  rw [this, Nat.or_comm, Nat.mul_comm, ← Nat.two_pow_add_eq_or_of_lt ha, Nat.add_comm]
end Go.Proofs.Ythkpnnbjcendcaa.Pure
