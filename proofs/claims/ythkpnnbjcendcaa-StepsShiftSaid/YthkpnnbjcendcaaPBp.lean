/- What bits.Put does to bytes. -/
import Derived.Test.YthkpnnbjcendcaaPBi
import Derived.Test.YthkpnnbjcendcaaBpu
namespace Go.Proofs.Ythkpnnbjcendcaa.Pure
set_option linter.unusedVariables false
open Go.RowKit Go.Proofs.Ythkpnnbjcendcaa.X Go.Proofs.Ythkpnnbjcendcaa.Pl Go.Proofs.YthkpnnbjcendcaaW.PrintWords Go.Proofs.YthkpnnbjcendcaaW.PrintLast Go.Proofs.YthkpnnbjcendcaaW.PrintMore

/-- Bytes that hold so many bits, and nothing but 0s behind them. -/
structure Hold (b : List Int) (m : Nat) : Prop where
  byt : Byt b
  len : b.length = (m + 7) / 8
  max : m ≤ 262144
  zero : ∀ q, q < 8 * b.length → m ≤ q → bt b q = 0
theorem hold_nil : Hold [] 0 := ⟨by intro x hx; simp at hx, rfl, by decide, by intro q hq; simp at hq⟩

/-- A byte of whose bits the first a are told: the others are 0. -/
theorem low_zero (x a : Nat) (ha : a ≤ 8) (hx : x < 256) (h : ∀ j, a ≤ j → j < 8 → x / 2 ^ (7 - j) % 2 = 0) : x % 2 ^ (8 - a) = 0 := by
  have : ∀ d, d ≤ 8 - a → x % 2 ^ d = 0 := by
    intro d
    induction d with
    | zero => intro _; simp [Nat.mod_one]
    | succ d ih =>
      intro hd
      have h1 := ih (by omega)
      have h2 := h (7 - d) (by omega) (by omega)
      rw [show 7 - (7 - d) = d by omega] at h2
      rw [Nat.pow_succ, Nat.mod_mul, h1, h2, Nat.mul_zero]
  exact this _ (Nat.le_refl _)
set_option synthInstance.maxSize 4000 in
set_option synthInstance.maxHeartbeats 400000 in
/-- A part laid behind the first a bits of a byte: all cases, reckoned. -/
theorem byte_all : ∀ a, a < 9 → ∀ s, s < 9 - a → ∀ X, X < 2 ^ a → ∀ v, v < 2 ^ s →
    X * 2 ^ (8 - a) ||| v * 2 ^ (8 - a - s) = X * 2 ^ (8 - a) + v * 2 ^ (8 - a - s) ∧ X * 2 ^ (8 - a) + v * 2 ^ (8 - a - s) < 256 ∧
    (∀ j, j < a → (X * 2 ^ (8 - a) + v * 2 ^ (8 - a - s)) / 2 ^ (7 - j) % 2 = X * 2 ^ (8 - a) / 2 ^ (7 - j) % 2) ∧
    (∀ j, j < s → (X * 2 ^ (8 - a) + v * 2 ^ (8 - a - s)) / 2 ^ (7 - (a + j)) % 2 = v / 2 ^ (s - 1 - j) % 2) ∧
    (∀ j, j < 8 - a - s → (X * 2 ^ (8 - a) + v * 2 ^ (8 - a - s)) / 2 ^ j % 2 = 0) := by decide +kernel
theorem bt_set (b : List Int) (i : Nat) (y : Nat) (hi : i < b.length) (q : Nat) : bt (b.set i (y : Int)) q = if q / 8 = i then y / 2 ^ (7 - q % 8) % 2 else bt b q := by
  unfold bt by_
  by_cases h : q / 8 = i
  · rw [if_pos h, h]
    simp [List.getD_eq_getElem?_getD, hi]
  · rw [if_neg h]
    simp only [List.getD_eq_getElem?_getD]
    rw [List.getElem?_set_ne (fun e => h e.symm)]
theorem bt_app (b : List Int) (q : Nat) : bt (b ++ [0]) q = bt b q := by
  unfold bt by_
  simp only [List.getD_eq_getElem?_getD]
  by_cases h : q / 8 < b.length
  · rw [List.getElem?_append_left h]
  · rw [List.getElem?_append_right (by omega), List.getElem?_eq_none (l := b) (by omega)]
    by_cases h2 : q / 8 - b.length = 0
    · rw [h2]; rfl
    · rw [List.getElem?_eq_none (by simp; omega)]
/-- The bytes with room for one bit more. -/
def room (b : List Int) (m : Nat) : List Int := if m % 8 = 0 then b ++ [0] else b
theorem room_len {b : List Int} {m : Nat} (h : Hold b m) : (room b m).length = m / 8 + 1 := by
  have := h.len
  unfold room
  split
  · rw [List.length_append, List.length_singleton]; omega
  · omega
theorem room_bt (b : List Int) (m q : Nat) : bt (room b m) q = bt b q := by
  unfold room
  split
  · exact bt_app b q
  · rfl
theorem room_byt {b : List Int} {m : Nat} (h : Hold b m) : Byt (room b m) := by
  unfold room
  split
  · intro x hx
    rcases List.mem_append.1 hx with hx | hx
    · exact h.byt x hx
    · obtain rfl := List.mem_singleton.1 hx; omega
  · exact h.byt
theorem room_zero {b : List Int} {m : Nat} (h : Hold b m) (q : Nat) (hq : m ≤ q) : bt (room b m) q = 0 := by
  rw [room_bt]
  by_cases hlt : q < 8 * b.length
  · exact h.zero q hlt hq
  · unfold bt by_
    rw [List.getD_eq_getElem?_getD, List.getElem?_eq_none (by omega)]
    simp
/-- One part laid behind. -/
theorem lay {b : List Int} {m : Nat} (h : Hold b m) (s v : Nat) (hs : m % 8 + s ≤ 8) (h1 : 1 ≤ s) (hm : m + s ≤ 262144) (hv : v < 2 ^ s) :
    ∃ y : Nat, by_ (room b m) (8 * (m / 8)) ||| v * 2 ^ (8 - m % 8 - s) = y ∧ y < 256 ∧ Hold ((room b m).set (m / 8) (y : Int)) (m + s) ∧
      (∀ q, q < m → bt ((room b m).set (m / 8) (y : Int)) q = bt b q) ∧ (∀ j, j < s → bt ((room b m).set (m / 8) (y : Int)) (m + j) = v / 2 ^ (s - 1 - j) % 2) := by
  have hlen := room_len h
  have hx := (by_rd (room_byt h) (8 * (m / 8)) (by omega)).2
  have hz : by_ (room b m) (8 * (m / 8)) % 2 ^ (8 - m % 8) = 0 := by
    refine low_zero _ _ (by omega) hx ?_
    intro j hj hj8
    have := room_zero h (8 * (m / 8) + j) (by omega)
    unfold bt by_ at this
    rw [show (8 * (m / 8) + j) / 8 = m / 8 by omega, show (8 * (m / 8) + j) % 8 = j by omega] at this
    unfold by_
    rw [show 8 * (m / 8) / 8 = m / 8 by omega]
    exact this
  obtain ⟨X, hX⟩ : ∃ X, by_ (room b m) (8 * (m / 8)) = X * 2 ^ (8 - m % 8) := ⟨_, (Nat.div_mul_cancel (Nat.dvd_of_mod_eq_zero hz)).symm⟩
  have hXlt : X < 2 ^ (m % 8) := by
    have e : 2 ^ (m % 8) * 2 ^ (8 - m % 8) = 256 := by rw [← Nat.pow_add, show m % 8 + (8 - m % 8) = 8 by omega]
    rw [hX, ← e] at hx
    exact Nat.lt_of_mul_lt_mul_right hx
  obtain ⟨b1, b2, b3, b4, b5⟩ := byte_all (m % 8) (by omega) s (by omega) X hXlt v hv
  rw [hX, b1]
  have hset := fun q => bt_set (room b m) (m / 8) (X * 2 ^ (8 - m % 8) + v * 2 ^ (8 - m % 8 - s)) (by omega) q
  generalize X * 2 ^ (8 - m % 8) + v * 2 ^ (8 - m % 8 - s) = y at *
  refine ⟨y, rfl, b2, ⟨?_, ?_, hm, ?_⟩, ?_, ?_⟩
  · intro z hz'
    rcases List.mem_or_eq_of_mem_set hz' with h' | rfl
    · exact room_byt h z h'
    · omega
  · rw [List.length_set, hlen]; omega
  · intro q hq hmq
    rw [List.length_set, hlen] at hq
    rw [hset, if_pos (by omega)]
    have := b5 (7 - q % 8) (by omega)
    exact this
  · intro q hq
    rw [hset]
    split
    · rename_i e
      rw [b3 (q % 8) (by omega), ← hX, ← room_bt b m q]
      unfold bt by_
      rw [e, show 8 * (m / 8) / 8 = m / 8 by omega]
    · exact room_bt b m q
  · intro j hj
    rw [hset, if_pos (by omega), show (m + j) % 8 = m % 8 + j by omega]
    exact b4 j hj
theorem mod_bit (t s e : Nat) (h : e < s) : t % 2 ^ s / 2 ^ e % 2 = t / 2 ^ e % 2 := by
  have e1 : 2 ^ s = 2 ^ e * 2 ^ (s - e) := by rw [← Nat.pow_add, show e + (s - e) = s by omega]
  rw [e1, Nat.mod_mul_right_div_self]
  refine Nat.mod_mod_of_dvd _ ?_
  rw [show s - e = (s - e - 1) + 1 by omega, Nat.pow_succ]
  exact Nat.dvd_mul_left 2 _
theorem part_of {n left s : Nat} (hn : n < 2 ^ 64) (hl : left ≤ 64) (hs : s ≤ left) (hs8 : s ≤ 8) :
    Go.bits .and .u8 ((shr .u64 (n : Int) ((left - s : Nat) : Int)) % 256) (shr .u8 255 ((8 - s : Nat) : Int)) = ((n / 2 ^ (left - s) % 2 ^ s : Nat) : Int) := by
  have e1 : min ((left - s : Nat) : Int).toNat IntKind.u64.bits = left - s := by
    rw [Int.toNat_natCast]; exact Nat.min_eq_left (by show _ ≤ 64; omega)
  have e2 : min ((8 - s : Nat) : Int).toNat IntKind.u8.bits = 8 - s := by
    rw [Int.toNat_natCast]; exact Nat.min_eq_left (by show _ ≤ 8; omega)
  unfold shr
  rw [e1, e2, mask8 hs8]
  have e3 : ((n : Nat) : Int) / 2 ^ (left - s) % 256 = ((n / 2 ^ (left - s) % 256 : Nat) : Int) := by
    rw [Int.natCast_emod, Int.natCast_ediv]; simp
  have h4 : n / 2 ^ (left - s) % 256 < 2 ^ 8 := Nat.mod_lt _ (by decide)
  rw [e3, bits_mask .u8 8 (by decide) wraps_u8 s hs8 _ (Int.natCast_nonneg _) (by exact_mod_cast h4)]
  have hd : n / 2 ^ (left - s) % 256 % 2 ^ s = n / 2 ^ (left - s) % 2 ^ s := Nat.mod_mod_of_dvd _ (by
    have : (256 : Nat) = 2 ^ s * 2 ^ (8 - s) := by rw [← Nat.pow_add, show s + (8 - s) = 8 by omega]
    rw [this]; exact Nat.dvd_mul_right _ _)
  rw [← hd]
  simp
theorem or_part {x v e : Nat} (hx : x < 256) (he : e ≤ 8) (hv : v * 2 ^ e < 256) : Go.bits .or .u8 (x : Int) (shl .u8 (v : Int) ((e : Nat) : Int)) = ((x ||| v * 2 ^ e : Nat) : Int) := by
  have e1 : min ((e : Nat) : Int).toNat IntKind.u8.bits = e := by
    rw [Int.toNat_natCast]; exact Nat.min_eq_left (by show _ ≤ 8; omega)
  have hc : (v : Int) * 2 ^ e = ((v * 2 ^ e : Nat) : Int) := by simp
  unfold shl
  rw [e1, hc, wraps_u8 _ (Int.natCast_nonneg _) (by exact_mod_cast hv)]
  exact (bits_nat .u8 8 (by decide) wraps_u8 x (v * 2 ^ e) hx hv).2
/-- All parts laid behind. -/
theorem put_loop {n : Nat} (hn : n < 2 ^ 64) (left : Nat) : ∀ (b : List Int) (m : Nat), Hold b m → left ≤ 64 → m + left ≤ 262144 →
    ∃ b', Ev (fun k => bits_Bits_Put.l0 k b (m : Int) (n : Int) (left : Int)) (0, b', ((m + left : Nat) : Int)) ∧ Hold b' (m + left) ∧
      (∀ q, q < m → bt b' q = bt b q) ∧ (∀ j, j < left → bt b' (m + j) = n / 2 ^ (left - 1 - j) % 2) := by
  induction left using Nat.strongRecOn with
  | _ left ih =>
    intro b m h hl hm
    by_cases h0 : left = 0
    · subst h0
      exact ⟨b, ev_stop fun k => by rw [bits_Bits_Put.l0, if_neg (by simp)]; simp, h, fun q hq => rfl, fun j hj => absurd hj (by omega)⟩
    · have hmod : Int.tmod (m : Int) 8 = ((m % 8 : Nat) : Int) := by rw [tmod_pos (by omega)]; omega
      obtain ⟨s, hs⟩ : ∃ s : Nat, s = min (8 - m % 8) left := ⟨_, rfl⟩
      have hfree : wrap64 (8 - Int.tmod (m : Int) 8) = ((8 - m % 8 : Nat) : Int) := by rw [hmod, w64 (by omega) (by omega)]; omega
      have hmn : mn ((8 - m % 8 : Nat) : Int) (left : Int) = (s : Int) := by
        have := @mn_le ((8 - m % 8 : Nat) : Int) (left : Int)
        omega
      have hs1 : 1 ≤ s ∧ s ≤ left ∧ m % 8 + s ≤ 8 := by omega
      have hlen := room_len h
      have hv : n / 2 ^ (left - s) % 2 ^ s < 2 ^ s := Nat.mod_lt _ (Nat.two_pow_pos s)
      obtain ⟨y, hy, hy8, hh, hold, hnew⟩ := lay h s (n / 2 ^ (left - s) % 2 ^ s) hs1.2.2 hs1.1 (by omega) hv
      have hrd := by_rd (room_byt h) (8 * (m / 8)) (by omega)
      rw [show 8 * (m / 8) / 8 = m / 8 by omega] at hrd
      have hvm : n / 2 ^ (left - s) % 2 ^ s * 2 ^ (8 - m % 8 - s) < 256 := by
        have h1 : n / 2 ^ (left - s) % 2 ^ s * 2 ^ (8 - m % 8 - s) < 2 ^ s * 2 ^ (8 - m % 8 - s) := (Nat.mul_lt_mul_right (Nat.two_pow_pos _)).2 hv
        rw [← Nat.pow_add] at h1
        exact Nat.lt_of_lt_of_le h1 (Nat.pow_le_pow_right (by decide) (by omega) : _ ≤ 2 ^ 8)
      have hor := or_part (v := n / 2 ^ (left - s) % 2 ^ s) (e := 8 - m % 8 - s) hrd.2 (by omega) hvm
      rw [hy] at hor
      have hpart := part_of hn hl hs1.2.1 (show s ≤ 8 by omega)
      obtain ⟨b', hev, hh', hold', hnew'⟩ := ih (left - s) (by omega) ((room b m).set (m / 8) (y : Int)) (m + s) hh (by omega) (by omega)
      rw [show m + s + (left - s) = m + left by omega] at hev hh'
      refine ⟨b', ?_, hh', fun q hq => by rw [hold' q (by omega), hold q hq], ?_⟩
      · have key : Ev (fun k => bits_Bits_Put.l0 k ((room b m).set (wrap64 (((room b m).length : Int) - 1)).toNat (Go.bits .or .u8 (rd (room b m) (wrap64 (((room b m).length : Int) - 1))) (shl .u8 (Go.bits .and .u8 ((shr .u64 (n : Int) (wrap64 ((left : Int) - (s : Int)))) % 256) (shr .u8 255 (wrap64 (8 - (s : Int))))) (wrap64 (((8 - m % 8 : Nat) : Int) - (s : Int)))))) (wrap64 ((m : Int) + (s : Int))) (n : Int) (wrap64 ((left : Int) - (s : Int)))) (0, b', ((m + left : Nat) : Int)) := by
          rw [w64 (x := (left : Int) - (s : Int)) (by omega) (by omega), w64 (x := 8 - (s : Int)) (by omega) (by omega), w64 (x := ((8 - m % 8 : Nat) : Int) - (s : Int)) (by omega) (by omega), w64 (x := (m : Int) + (s : Int)) (by omega) (by omega), w64 (x := ((room b m).length : Int) - 1) (by omega) (by omega)]
          rw [show ((left : Int) - (s : Int)) = ((left - s : Nat) : Int) by omega, show 8 - (s : Int) = ((8 - s : Nat) : Int) by omega, show ((8 - m % 8 : Nat) : Int) - (s : Int) = ((8 - m % 8 - s : Nat) : Int) by omega, show ((room b m).length : Int) - 1 = ((m / 8 : Nat) : Int) by omega, hpart, hrd.1, hor, Int.toNat_natCast, show (m : Int) + (s : Int) = ((m + s : Nat) : Int) by omega]
          exact hev
        have hz1 : 0 ≤ wrap64 ((left : Int) - (s : Int)) := by rw [w64 (by omega) (by omega)]; omega
        have hz2 : 0 ≤ wrap64 (8 - (s : Int)) := by rw [w64 (by omega) (by omega)]; omega
        have hz3 : 0 ≤ wrap64 (((room b m).length : Int) - 1) ∧ wrap64 (((room b m).length : Int) - 1) < ((room b m).length : Int) := by rw [w64 (by omega) (by omega)]; omega
        have hz4 : 0 ≤ wrap64 (((8 - m % 8 : Nat) : Int) - (s : Int)) := by rw [w64 (by omega) (by omega)]; omega
        refine ev_succ (fun k => by rw [bits_Bits_Put.l0]) ?_
        simp only [hfree, hmn]
        refine ev_pos (by omega) ?_
        by_cases hm8 : m % 8 = 0
        · have er : b ++ [0] = room b m := by unfold room; rw [if_pos hm8]
          have hbl := h.len
          refine ev_pos (by omega) (ev_pos (by omega) ?_)
          simp only [Option.bind_some, er]
          exact ev_pos hz1 (ev_pos hz2 (ev_pos hz3.1 (ev_pos hz3.2 (ev_pos hz4 key))))
        · have er : room b m = b := by unfold room; rw [if_neg hm8]
          rw [er] at key hz3
          refine ev_neg (by omega) ?_
          exact ev_pos hz1 (ev_pos hz2 (ev_pos hz3.1 (ev_pos hz3.2 (ev_pos hz4 key))))
      · intro j hj
        by_cases hjs : j < s
        · rw [hold' (m + j) (by omega), hnew j hjs, mod_bit _ _ _ (by omega), Nat.div_div_eq_div_mul, ← Nat.pow_add, show left - s + (s - 1 - j) = left - 1 - j by omega]
        · have := hnew' (j - s) (by omega)
          rw [show m + s + (j - s) = m + j by omega] at this
          rw [this, show left - s - 1 - (j - s) = left - 1 - j by omega]
/-- May a number be put, and what is told of it? -/
def putC (m : Nat) (n w : Int) : Int := if w < 0 ∨ w > 64 then 20 else if ¬ n < 2 ^ w.toNat then 1 else if (m : Int) + w > 262144 then 3 else 0
theorem putC_0 {m : Nat} {n w : Int} (h : putC m n w = 0) : 0 ≤ w ∧ w ≤ 64 ∧ n < 2 ^ w.toNat ∧ (m : Int) + w ≤ 262144 := by
  unfold putC at h
  split at h
  · simp at h
  · split at h
    · simp at h
    · split at h
      · simp at h
      · rename_i a b c
        exact ⟨by omega, by omega, by omega, by omega⟩
theorem put_ev {b : List Int} {m : Nat} (h : Hold b m) (n w : Int) (hn : 0 ≤ n ∧ n < 2 ^ 64) (hw : -9223372036854775808 ≤ w ∧ w ≤ 9223372036854775807) :
    ∃ (b' : List Int) (m' : Nat), Ev (fun k => bits_Bits_Put.f k b (m : Int) n w) (putC m n w, b', (m' : Int)) ∧ Hold b' m' ∧ (putC m n w ≠ 0 → b' = b ∧ m' = m) ∧
      (putC m n w = 0 → m' = m + w.toNat ∧ (∀ q, q < m → bt b' q = bt b q) ∧ (∀ j, j < w.toNat → bt b' (m + j) = n.toNat / 2 ^ (w.toNat - 1 - j) % 2)) := by
  have hm := h.max
  have now : ∀ {c x : Int} {y : List Int × Int}, Ev (fun _ : Nat => some (c, y)) (c, y) := fun {_ _ _} => ⟨0, fun _ _ => rfl⟩
  have stay : ∀ {c : Int}, c ≠ 0 → putC m n w = c → Ev (fun k => bits_Bits_Put.f k b (m : Int) n w) (c, b, (m : Int)) →
      ∃ (b' : List Int) (m' : Nat), Ev (fun k => bits_Bits_Put.f k b (m : Int) n w) (putC m n w, b', (m' : Int)) ∧ Hold b' m' ∧ (putC m n w ≠ 0 → b' = b ∧ m' = m) ∧
      (putC m n w = 0 → m' = m + w.toNat ∧ (∀ q, q < m → bt b' q = bt b q) ∧ (∀ j, j < w.toNat → bt b' (m + j) = n.toNat / 2 ^ (w.toNat - 1 - j) % 2)) := by
    intro c hc e hev
    rw [e]
    exact ⟨b, m, hev, h, fun _ => ⟨rfl, rfl⟩, fun h0 => absurd h0 hc⟩
  by_cases h1 : w < 0
  · refine stay (c := 20) (by decide) (by unfold putC; rw [if_pos (Or.inl h1)]) ?_
    unfold bits_Bits_Put.f
    exact ev_pos h1 (ev_succ (f := fun _ => some (20, b, (m : Int))) (fun k => by rw [bits_Bits_Put.j0, if_pos rfl]) ⟨0, fun _ _ => rfl⟩)
  · by_cases h2 : w > 64
    · refine stay (c := 20) (by decide) (by unfold putC; rw [if_pos (Or.inr h2)]) ?_
      unfold bits_Bits_Put.f
      exact ev_neg h1 (ev_succ (f := fun _ => some (20, b, (m : Int))) (fun k => by rw [bits_Bits_Put.j0, if_pos (by simpa using h2)]) ⟨0, fun _ _ => rfl⟩)
    · obtain ⟨W, rfl⟩ : ∃ W : Nat, w = (W : Int) := ⟨w.toNat, by omega⟩
      obtain ⟨N, rfl⟩ : ∃ N : Nat, n = (N : Int) := ⟨n.toNat, by omega⟩
      have hW : W ≤ 64 := by omega
      have hN : N < 2 ^ 64 := by have := hn.2; exact_mod_cast this
      have hpC : putC m (N : Int) (W : Int) = if ¬ N < 2 ^ W then 1 else if (m : Int) + (W : Int) > 262144 then 3 else 0 := by
        unfold putC
        rw [if_neg (by omega), Int.toNat_natCast]
        have : ((N : Int) < 2 ^ W) ↔ N < 2 ^ W := by exact_mod_cast Iff.rfl
        simp only [this]
      have hj0 : ∀ {r : Int × List Int × Int}, Ev (fun k => bits_Bits_Put.j1 k b (m : Int) (N : Int) (W : Int) (!decide (N < 2 ^ W))) r → Ev (fun k => bits_Bits_Put.f k b (m : Int) (N : Int) (W : Int)) r := by
        intro r hr
        unfold bits_Bits_Put.f
        refine ev_neg h1 (ev_succ (fun k => by rw [bits_Bits_Put.j0, if_neg (by simpa using h2)]) ?_)
        by_cases h3 : W < 64
        · refine ev_pos (by omega) (ev_pos (by omega) ?_)
          have e : (shr .u64 (N : Int) (W : Int) != 0) = !decide (N < 2 ^ W) := by
            unfold shr
            have e1 : min (W : Int).toNat IntKind.u64.bits = W := by rw [Int.toNat_natCast]; exact Nat.min_eq_left (by show _ ≤ 64; omega)
            rw [e1]
            have e2 : (N : Int) / 2 ^ W = ((N / 2 ^ W : Nat) : Int) := by rw [Int.natCast_ediv]; simp
            rw [e2]
            by_cases h4 : N < 2 ^ W
            · rw [Nat.div_eq_of_lt h4]; simp [h4]
            · have : 0 < N / 2 ^ W := Nat.div_pos (by omega) (Nat.two_pow_pos W)
              simp only [h4, decide_false, Bool.not_false, bne_iff_ne, ne_eq]
              omega
          rw [e]
          exact hr
        · obtain rfl : W = 64 := by omega
          have e : (!decide (N < 2 ^ 64)) = false := by simp [hN]
          rw [e] at hr
          exact ev_neg (by omega) hr
      by_cases h5 : N < 2 ^ W
      · have e5 : (!decide (N < 2 ^ W)) = false := by simp [h5]
        rw [e5] at hj0
        by_cases h6 : (m : Int) + (W : Int) > 262144
        · refine stay (c := 3) (by decide) (by rw [hpC, if_neg (by simpa using h5), if_pos h6]) (hj0 ?_)
          exact ev_succ (f := fun _ => some (3, b, (m : Int))) (fun k => by rw [bits_Bits_Put.j1, if_neg (by simp), w64 (x := 262144 - (W : Int)) (by omega) (by omega), if_pos (by omega)]) ⟨0, fun _ _ => rfl⟩
        · have hc : putC m (N : Int) (W : Int) = 0 := by rw [hpC, if_neg (by simpa using h5), if_neg h6]
          obtain ⟨b', hev, hh, hold, hnew⟩ := put_loop hN W b m h hW (by omega)
          rw [hc]
          refine ⟨b', m + W, hj0 (ev_succ (fun k => by rw [bits_Bits_Put.j1, if_neg (by simp), w64 (x := 262144 - (W : Int)) (by omega) (by omega), if_neg (by omega)]) hev), hh, fun h => absurd rfl h, fun _ => ⟨by simp, hold, fun j hj => ?_⟩⟩
          rw [Int.toNat_natCast] at hj ⊢
          rw [Int.toNat_natCast]
          exact hnew j hj
      · have e5 : (!decide (N < 2 ^ W)) = true := by simp [h5]
        rw [e5] at hj0
        refine stay (c := 1) (by decide) (by rw [hpC, if_pos h5]) (hj0 ?_)
        exact ev_succ (f := fun _ => some (1, b, (m : Int))) (fun k => by rw [bits_Bits_Put.j1, if_pos rfl]) ⟨0, fun _ _ => rfl⟩
/-- The bytes are told by the bits. -/
theorem hold_ext {b c : List Int} {m : Nat} (h : Hold b m) (h' : Hold c m) (hb : ∀ q, q < m → bt b q = bt c q) : b = c := by
  have hl : b.length = c.length := by rw [h.len, h'.len]
  have hall : ∀ q, q < 8 * b.length → bt b q = bt c q := by
    intro q hq
    by_cases hm : q < m
    · exact hb q hm
    · rw [h.zero q hq (by omega), h'.zero q (by omega) (by omega)]
  refine List.ext_getElem hl ?_
  intro i hi hi'
  obtain ⟨e1, l1⟩ := by_rd h.byt (8 * i) (by omega)
  obtain ⟨e2, l2⟩ := by_rd h'.byt (8 * i) (by omega)
  have g1 : b.getD i 0 = b[i] := getD_lt b _ _ hi
  have g2 : c.getD i 0 = c[i] := getD_lt c _ _ hi'
  have hx : by_ b (8 * i) = by_ c (8 * i) := by
    have bits : ∀ j, j < 8 → by_ b (8 * i) / 2 ^ (7 - j) % 2 = by_ c (8 * i) / 2 ^ (7 - j) % 2 := by
      intro j hj
      have := hall (8 * i + j) (by omega)
      unfold bt by_ at this
      unfold by_
      rw [show (8 * i + j) / 8 = i by omega, show (8 * i + j) % 8 = j by omega] at this
      rw [show 8 * i / 8 = i by omega]
      exact this
    have b0 := bits 0 (by omega)
    have b1 := bits 1 (by omega)
    have b2 := bits 2 (by omega)
    have b3 := bits 3 (by omega)
    have b4 := bits 4 (by omega)
    have b5 := bits 5 (by omega)
    have b6 := bits 6 (by omega)
    have b7 := bits 7 (by omega)
    simp at b0 b1 b2 b3 b4 b5 b6 b7
    omega
  have m1 := h.byt _ (List.getElem_mem hi)
  have m2 := h'.byt _ (List.getElem_mem hi')
  unfold by_ at hx
  rw [show 8 * i / 8 = i by omega, g1, g2] at hx
  omega
end Go.Proofs.Ythkpnnbjcendcaa.Pure
