/- Bits of bytes: what bits.At, bits.Clear and their references tell. -/
import Derived.Test.YthkpnnbjcendcaaPl
import Derived.Test.YthkpnnbjcendcaaBat
import Derived.Test.YthkpnnbjcendcaaX59
import Derived.Test.YthkpnnbjcendcaaX60
import Derived.Test.YthkpnnbjcendcaaX14
namespace Go.Proofs.Ythkpnnbjcendcaa.Pure
open Go.RowKit Go.Proofs.Ythkpnnbjcendcaa.X Go.Proofs.Ythkpnnbjcendcaa.Pl Go.Proofs.YthkpnnbjcendcaaW.PrintWords Go.Proofs.YthkpnnbjcendcaaW.PrintLast Go.Proofs.YthkpnnbjcendcaaW.PrintMore

/-- The byte of a place, the bit of a place, so many bits from a place on. -/
def by_ (b : List Int) (p : Nat) : Nat := (b.getD (p / 8) 0).toNat
def bt (b : List Int) (p : Nat) : Nat := by_ b p / 2 ^ (7 - p % 8) % 2
def val (b : List Int) (p : Nat) : Nat → Nat
  | 0 => 0
  | w + 1 => 2 * val b p w + bt b (p + w)
def Byt (b : List Int) : Prop := ∀ x ∈ b, 0 ≤ x ∧ x ≤ 255
theorem byt_wf {b : List Int} (h : ∀ x ∈ b, (Lit.int .u8 x).wf = true) : Byt b := fun x hx => by
  simpa [Lit.wf, IntKind.min, IntKind.max, IntKind.signed, IntKind.bits] using h x hx
theorem by_rd {b : List Int} (h : Byt b) (p : Nat) (hp : p < 8 * b.length) : rd b ((p / 8 : Nat) : Int) = (by_ b p : Int) ∧ by_ b p < 256 := by
  have hlt : p / 8 < b.length := by omega
  have hm := h _ (List.getElem_mem hlt)
  have e : b.getD (p / 8) 0 = b[p / 8] := getD_lt b _ _ hlt
  unfold by_
  constructor
  · show b.getD (((p / 8 : Nat) : Int)).toNat 0 = _
    rw [Int.toNat_natCast, e]; omega
  · rw [e]; omega
theorem bt_lt (b : List Int) (p : Nat) : bt b p < 2 := Nat.mod_lt _ (by decide)
theorem val_lt (b : List Int) (p : Nat) : ∀ w, val b p w < 2 ^ w
  | 0 => by simp [val]
  | w + 1 => by
    have := val_lt b p w
    have := bt_lt b (p + w)
    rw [val, Nat.pow_succ]; omega
theorem val_add (b : List Int) (p w : Nat) : ∀ m, val b p (w + m) = val b p w * 2 ^ m + val b (p + w) m
  | 0 => by simp [val]
  | m + 1 => by
    rw [← Nat.add_assoc, val, val_add b p w m, val, Nat.pow_succ, ← Nat.add_assoc p w m]
    rw [Nat.mul_add, Nat.mul_comm (2 ^ m) 2, ← Nat.mul_assoc, ← Nat.mul_assoc, Nat.mul_comm 2 (val b p w)]
    omega
theorem val_zero (b : List Int) (p : Nat) : ∀ w, val b p w = 0 ↔ ∀ j, j < w → bt b (p + j) = 0
  | 0 => by simp [val]
  | w + 1 => by
    rw [val]
    have ih := val_zero b p w
    constructor
    · intro h j hj
      rcases (by omega : j < w ∨ j = w) with h' | rfl
      · exact ih.1 (by omega) j h'
      · omega
    · intro h
      have h1 := ih.2 (fun j hj => h j (by omega))
      have h2 := h w (by omega)
      omega
/-- Within one byte. -/
theorem val_byte (b : List Int) (p : Nat) : ∀ s, p % 8 + s ≤ 8 → val b p s = by_ b p / 2 ^ (8 - p % 8 - s) % 2 ^ s
  | 0, _ => by simp [val, Nat.mod_one]
  | s + 1, h => by
    have e1 : by_ b (p + s) = by_ b p := by unfold by_; rw [show (p + s) / 8 = p / 8 by omega]
    have e2 : (p + s) % 8 = p % 8 + s := by omega
    rw [val, val_byte b p s (by omega), bt, e1, e2]
    have e3 : 8 - p % 8 - s = (7 - (p % 8 + s)) + 1 := by omega
    have e4 : 8 - p % 8 - (s + 1) = 7 - (p % 8 + s) := by omega
    rw [e3, e4, Nat.pow_succ 2 (7 - (p % 8 + s)), ← Nat.div_div_eq_div_mul, Nat.pow_succ 2 s, Nat.mul_comm (2 ^ s) 2, Nat.mod_mul]
    omega

/-! ### bits.At -/
def atR (b : List Int) (p w : Int) : Int × Int :=
  if w < 0 ∨ w > 64 then (0, 20) else if p < 0 ∨ p > 8 * (b.length : Int) - w then (0, 2) else ((val b p.toNat w.toNat : Int), 0)
theorem mask8 {s : Nat} (h : s ≤ 8) : (255 : Int) / 2 ^ (8 - s) = 2 ^ s - 1 := by
  rcases (by omega : s = 0 ∨ s = 1 ∨ s = 2 ∨ s = 3 ∨ s = 4 ∨ s = 5 ∨ s = 6 ∨ s = 7 ∨ s = 8) with rfl | rfl | rfl | rfl | rfl | rfl | rfl | rfl | rfl <;> decide
theorem w_u64 {n : Int} (h0 : 0 ≤ n) (h1 : n < 2 ^ 64) : IntKind.u64.wrap n = n := by
  simp only [IntKind.wrap, IntKind.signed, IntKind.bits]
  simp only [Bool.false_and, Bool.false_eq_true, if_false]
  exact Int.emod_eq_of_lt h0 h1
theorem part_is {b : List Int} (hb : Byt b) {p s : Nat} (hp : p < 8 * b.length) (hs : p % 8 + s ≤ 8) :
    Go.bits .and .u8 (shr .u8 (rd b ((p / 8 : Nat) : Int)) ((8 - p % 8 - s : Nat) : Int)) (shr .u8 255 ((8 - s : Nat) : Int)) = (val b p s : Int) := by
  obtain ⟨hr, hlt⟩ := by_rd hb p hp
  have e1 : min ((8 - p % 8 - s : Nat) : Int).toNat IntKind.u8.bits = 8 - p % 8 - s := by
    rw [Int.toNat_natCast]; exact Nat.min_eq_left (by show _ ≤ 8; omega)
  have e2 : min ((8 - s : Nat) : Int).toNat IntKind.u8.bits = 8 - s := by
    rw [Int.toNat_natCast]; exact Nat.min_eq_left (by show _ ≤ 8; omega)
  unfold shr
  rw [e1, e2, hr, mask8 (by omega)]
  have e3 : ((by_ b p : Nat) : Int) / 2 ^ (8 - p % 8 - s) = ((by_ b p / 2 ^ (8 - p % 8 - s) : Nat) : Int) := by
    rw [Int.natCast_ediv]; simp
  have h4 : by_ b p / 2 ^ (8 - p % 8 - s) < 2 ^ 8 := Nat.lt_of_le_of_lt (Nat.div_le_self _ _) hlt
  rw [e3, bits_mask .u8 8 (by decide) wraps_u8 s (by omega) _ (Int.natCast_nonneg _) (by exact_mod_cast h4), val_byte b p s hs]
  simp
theorem or_is {n s v : Nat} (hn : n * 2 ^ s < 2 ^ 64) (hv : v < 2 ^ s) (hs : s ≤ 64) : Go.bits .or .u64 (shl .u64 (n : Int) ((s : Nat) : Int)) (v : Int) = ((n * 2 ^ s + v : Nat) : Int) := by
  have e1 : min ((s : Nat) : Int).toNat IntKind.u64.bits = s := by
    rw [Int.toNat_natCast]; exact Nat.min_eq_left (by show _ ≤ 64; omega)
  have hc : (n : Int) * 2 ^ s = ((n * 2 ^ s : Nat) : Int) := by simp
  have hv64 : v < 2 ^ 64 := Nat.lt_of_lt_of_le hv (Nat.pow_le_pow_right (by decide) hs)
  unfold shl
  rw [e1, hc, w_u64 (Int.natCast_nonneg _) (by exact_mod_cast hn)]
  rw [bits_join .u64 64 (by decide) (fun n h0 h1 => w_u64 h0 h1) s _ _ (Int.natCast_nonneg _) (by rw [← hc]; exact Int.mul_emod_left _ _) (by exact_mod_cast hn) (Int.natCast_nonneg _) (by exact_mod_cast hv) (by exact_mod_cast hv64)]
  simp

theorem at_loop {b : List Int} (hb : Byt b) (hl : b.length < 1000000) (left : Nat) : ∀ (n p done : Nat), n < 2 ^ done → done + left ≤ 64 → p + left ≤ 8 * b.length →
    Ev (fun k => bits_At.l0 k b (n : Int) (p : Int) (left : Int)) (((n * 2 ^ left + val b p left : Nat) : Int), 0) := by
  induction left using Nat.strongRecOn with
  | _ left ih =>
    intro n p done hn hd hp
    by_cases h0 : left = 0
    · subst h0
      exact ev_stop fun k => by rw [bits_At.l0, if_pos (by simp)]; simp [val]
    · have hmod : Int.tmod (p : Int) 8 = ((p % 8 : Nat) : Int) := by rw [tmod_pos (by omega)]; omega
      have hdiv : Int.tdiv (p : Int) 8 = ((p / 8 : Nat) : Int) := by rw [tdiv_pos (by omega)]; omega
      obtain ⟨s, hs⟩ : ∃ s : Nat, s = min (8 - p % 8) left := ⟨_, rfl⟩
      have hmn : mn (wrap64 (8 - Int.tmod (p : Int) 8)) (left : Int) = (s : Int) := by
        rw [hmod, w64 (by omega) (by omega)]
        have := @mn_le (8 - ((p % 8 : Nat) : Int)) (left : Int)
        omega
      have hs1 : 1 ≤ s ∧ s ≤ left ∧ p % 8 + s ≤ 8 := by omega
      have hfree : wrap64 (8 - Int.tmod (p : Int) 8) = ((8 - p % 8 : Nat) : Int) := by rw [hmod, w64 (by omega) (by omega)]; omega
      refine ev_succ (fun k => by rw [bits_At.l0]) ?_
      rw [hmn, hfree, hdiv, w64 (x := ((p / 8 : Nat) : Int)) (by omega) (by omega), w64 (x := ((8 - p % 8 : Nat) : Int) - (s : Int)) (by omega) (by omega), w64 (x := 8 - (s : Int)) (by omega) (by omega), w64 (x := (p : Int) + (s : Int)) (by omega) (by omega), w64 (x := (left : Int) - (s : Int)) (by omega) (by omega)]
      rw [show ((8 - p % 8 : Nat) : Int) - (s : Int) = ((8 - p % 8 - s : Nat) : Int) by omega, show 8 - (s : Int) = ((8 - s : Nat) : Int) by omega, part_is hb (by omega) hs1.2.2]
      have hv := val_lt b p s
      have hv64 : val b p s < 2 ^ 64 := Nat.lt_of_lt_of_le hv (Nat.pow_le_pow_right (by decide) (by omega))
      have hns : n * 2 ^ s < 2 ^ (done + s) := by rw [Nat.pow_add]; exact (Nat.mul_lt_mul_right (Nat.two_pow_pos s)).2 hn
      have h64 : 2 ^ (done + s) ≤ 2 ^ 64 := Nat.pow_le_pow_right (by decide) (by omega)
      rw [w_u64 (Int.natCast_nonneg _) (by exact_mod_cast hv64), or_is (Nat.lt_of_lt_of_le hns h64) hv (by omega)]
      refine ev_neg (by omega) (ev_pos (by omega) (ev_pos (by omega) (ev_pos (by omega) (ev_pos (by omega) (ev_pos (by omega) ?_)))))
      have hn2 : n * 2 ^ s + val b p s < 2 ^ (done + s) := by
        have : n * 2 ^ s + 2 ^ s ≤ 2 ^ (done + s) := by
          rw [Nat.pow_add]
          have := Nat.mul_le_mul_right (2 ^ s) (show n + 1 ≤ 2 ^ done from hn)
          rw [Nat.add_mul, Nat.one_mul] at this
          exact this
        omega
      have := ih (left - s) (by omega) (n * 2 ^ s + val b p s) (p + s) (done + s) hn2 (by omega) (by omega)
      rw [show (((p + s : Nat)) : Int) = (p : Int) + (s : Int) by omega, show ((left - s : Nat) : Int) = (left : Int) - (s : Int) by omega] at this
      refine ev_eq this ?_
      have e1 : val b p left = val b p s * 2 ^ (left - s) + val b (p + s) (left - s) := by
        have := val_add b p s (left - s)
        rwa [show s + (left - s) = left by omega] at this
      have e2 : n * 2 ^ left = n * 2 ^ s * 2 ^ (left - s) := by rw [Nat.mul_assoc, ← Nat.pow_add, show s + (left - s) = left by omega]
      rw [e1, e2, Nat.add_mul]
      congr 2
      omega
theorem at_ev {b : List Int} (hb : Byt b) (hl : b.length < 1000000) (p w : Int) (hw : -9223372036854775808 ≤ w ∧ w ≤ 9223372036854775807) : Ev (fun k => bits_At.f k b p w) (atR b p w) := by
  unfold bits_At.f atR
  have hbad : ∀ c : Bool, c = true → Ev (fun k => bits_At.j0 k b p w c) (0, 20) := fun c hc => ev_stop fun k => by rw [bits_At.j0, if_pos hc]
  by_cases h1 : w < 0
  · rw [if_pos (.inl h1)]; exact ev_pos h1 (hbad _ rfl)
  · refine ev_neg h1 ?_
    by_cases h2 : w > 64
    · rw [if_pos (.inr h2)]; exact hbad _ (by simpa using h2)
    · rw [if_neg (by omega)]
      refine ev_succ (fun k => by rw [bits_At.j0]) ?_
      rw [w64 (x := 8 * (b.length : Int)) (by omega) (by omega), w64 (x := 8 * (b.length : Int) - w) (by omega) (by omega)]
      refine ev_neg (by simpa using h2) ?_
      by_cases h3 : p < 0
      · rw [if_pos (.inl h3)]; exact ev_pos h3 (Ev.now _)
      · refine ev_neg h3 ?_
        by_cases h4 : p > 8 * (b.length : Int) - w
        · rw [if_pos (.inr h4)]; exact ev_pos h4 (Ev.now _)
        · rw [if_neg (by omega)]
          refine ev_neg h4 ?_
          have := at_loop hb hl w.toNat 0 p.toNat 0 (by decide) (by omega) (by omega)
          rw [show ((p.toNat : Nat) : Int) = p by omega, show ((w.toNat : Nat) : Int) = w by omega] at this
          simpa using this

/-! ### The reference's -/
theorem bit_is {b : List Int} (hb : Byt b) (hl : b.length < 1000000) (p : Nat) (hp : p < 8 * b.length) : marigraphref02_bit.f b (p : Int) = some (bt b p : Int) := by
  obtain ⟨hr, hlt⟩ := by_rd hb p hp
  have hmod : Int.tmod (p : Int) 8 = ((p % 8 : Nat) : Int) := by rw [tmod_pos (by omega)]; omega
  have hdiv : Int.tdiv (p : Int) 8 = ((p / 8 : Nat) : Int) := by rw [tdiv_pos (by omega)]; omega
  have hsh : shr .u8 128 ((p % 8 : Nat) : Int) = ((2 ^ (7 - p % 8) : Nat) : Int) := by
    have hr8 : p % 8 < 8 := by omega
    generalize p % 8 = r at hr8
    rcases (by omega : r = 0 ∨ r = 1 ∨ r = 2 ∨ r = 3 ∨ r = 4 ∨ r = 5 ∨ r = 6 ∨ r = 7) with rfl | rfl | rfl | rfl | rfl | rfl | rfl | rfl <;> decide
  have hpos := Nat.two_pow_pos (7 - p % 8)
  unfold marigraphref02_bit.f
  rw [hdiv, hmod, w64 (by omega) (by omega), hsh, hr, if_pos (by omega), if_pos (by omega), if_pos (by omega), if_neg (by omega)]
  congr 1
  rw [tdiv_pos (by omega)]
  have hd : ((by_ b p : Nat) : Int) / ((2 ^ (7 - p % 8) : Nat) : Int) = ((by_ b p / 2 ^ (7 - p % 8) : Nat) : Int) := (Int.natCast_ediv _ _).symm
  have hle : by_ b p / 2 ^ (7 - p % 8) ≤ by_ b p := Nat.div_le_self _ _
  rw [hd]
  unfold bt
  generalize by_ b p / 2 ^ (7 - p % 8) = q at hle ⊢
  omega
theorem ref_at_loop {b : List Int} (hb : Byt b) (hl : b.length < 1000000) (p w : Nat) (hw : w ≤ 64) (hp : p + w ≤ 8 * b.length) (d : Nat) : ∀ i : Nat, w - i = d → i ≤ w →
    Ev (fun k => marigraphref02_At.l0 k b (p : Int) (w : Int) (val b p i : Int) (i : Int)) ((val b p w : Int), 0) := by
  induction d with
  | zero =>
    intro i hd hi
    obtain rfl : i = w := by omega
    exact ev_stop fun k => by rw [marigraphref02_At.l0, if_neg (by omega)]
  | succ d ih =>
    intro i hd hi
    have hv : val b p (i + 1) < 2 ^ 64 := Nat.lt_of_lt_of_le (val_lt b p (i + 1)) (Nat.pow_le_pow_right (by decide) (by omega))
    have hbt := bt_lt b (p + i)
    have e : val b p (i + 1) = 2 * val b p i + bt b (p + i) := rfl
    have hbit := bit_is hb hl (p + i) (by omega)
    refine ev_succ (fun k => by rw [marigraphref02_At.l0]) ?_
    rw [w64 (x := (p : Int) + (i : Int)) (by omega) (by omega), show (p : Int) + (i : Int) = ((p + i : Nat) : Int) by omega]
    refine ev_pos (by omega) (ev_const hbit ?_)
    rw [w_u64 (n := (val b p i : Int) * 2) (by omega) (by omega), w_u64 (n := (val b p i : Int) * 2 + (bt b (p + i) : Int)) (by omega) (by omega), w64 (x := (i : Int) + 1) (by omega) (by omega)]
    have := ih (i + 1) (by omega) (by omega)
    rw [e] at this
    rw [show (val b p i : Int) * 2 + (bt b (p + i) : Int) = ((2 * val b p i + bt b (p + i) : Nat) : Int) by omega]
    exact this
theorem ref_at_ev {b : List Int} (hb : Byt b) (hl : b.length < 1000000) (p w : Int) (hw : -9223372036854775808 ≤ w ∧ w ≤ 9223372036854775807) : Ev (fun k => marigraphref02_At.f k b p w) (atR b p w) := by
  unfold marigraphref02_At.f atR
  have hbad : ∀ c : Bool, c = true → Ev (fun k => marigraphref02_At.j0 k b p w c) (0, 20) := fun c hc => ev_stop fun k => by rw [marigraphref02_At.j0, if_pos hc]
  have hbad2 : ∀ c : Bool, c = true → Ev (fun k => marigraphref02_At.j1 k b p w c) (0, 2) := fun c hc => ev_stop fun k => by rw [marigraphref02_At.j1, if_pos hc]
  by_cases h1 : w < 0
  · rw [if_pos (.inl h1)]; exact ev_pos h1 (hbad _ rfl)
  · refine ev_neg h1 ?_
    by_cases h2 : w > 64
    · rw [if_pos (.inr h2)]; exact hbad _ (by simpa using h2)
    · rw [if_neg (by omega)]
      refine ev_succ (fun k => by rw [marigraphref02_At.j0]) ?_
      rw [w64 (x := 8 * (b.length : Int)) (by omega) (by omega), w64 (x := 8 * (b.length : Int) - w) (by omega) (by omega)]
      refine ev_neg (by simpa using h2) ?_
      by_cases h3 : p < 0
      · rw [if_pos (.inl h3)]; exact ev_pos h3 (hbad2 _ rfl)
      · refine ev_neg h3 ?_
        by_cases h4 : p > 8 * (b.length : Int) - w
        · rw [if_pos (.inr h4)]; exact hbad2 _ (by simpa using h4)
        · rw [if_neg (by omega)]
          refine ev_succ (fun k => by rw [marigraphref02_At.j1]) ?_
          refine ev_neg (by simpa using h4) ?_
          have := ref_at_loop hb hl p.toNat w.toNat (by omega) (by omega) _ 0 rfl (Nat.zero_le _)
          rw [show ((p.toNat : Nat) : Int) = p by omega, show ((w.toNat : Nat) : Int) = w by omega] at this
          exact this

/-! ### Clear -/
def clr (b : List Int) (p : Int) : Bool := if p < 0 then false else decide (∀ q, q < 8 * b.length → p.toNat ≤ q → bt b q = 0)
theorem clear_loop {b : List Int} (hb : Byt b) (hl : b.length < 1000000) (d : Nat) : ∀ p : Nat, 8 * b.length - p ≤ d → p ≤ 8 * b.length →
    Ev (fun k => bits_Clear.l0 k b (p : Int)) (decide (∀ q, q < 8 * b.length → p ≤ q → bt b q = 0)) := by
  induction d with
  | zero =>
    intro p hd hp
    refine ev_eq (ev_stop (r := true) fun k => by rw [bits_Clear.l0, w64 (by omega) (by omega), if_neg (by omega)]) ?_
    rw [eq_comm, decide_eq_true_iff]
    intro q hq hpq
    omega
  | succ d ih =>
    intro p hd hp
    by_cases hlt : p < 8 * b.length
    · have hmod : Int.tmod (p : Int) 8 = ((p % 8 : Nat) : Int) := by rw [tmod_pos (by omega)]; omega
      obtain ⟨s, hs⟩ : ∃ s : Nat, s = min (8 - p % 8) (8 * b.length - p) := ⟨_, rfl⟩
      have hmn : mn (wrap64 (8 - Int.tmod (p : Int) 8)) (wrap64 (wrap64 (8 * (b.length : Int)) - (p : Int))) = (s : Int) := by
        rw [hmod, w64 (x := 8 - ((p % 8 : Nat) : Int)) (by omega) (by omega), w64 (x := 8 * (b.length : Int)) (by omega) (by omega), w64 (x := 8 * (b.length : Int) - (p : Int)) (by omega) (by omega)]
        have := @mn_le (8 - ((p % 8 : Nat) : Int)) (8 * (b.length : Int) - (p : Int))
        omega
      have hat := at_ev hb hl (p : Int) (s : Int) (by omega)
      have hR : atR b (p : Int) (s : Int) = ((val b p s : Int), 0) := by
        unfold atR
        rw [if_neg (by omega), if_neg (by omega)]
        simp
      rw [hR] at hat
      have hz := val_zero b p s
      refine ev_succ (fun k => by rw [bits_Clear.l0]) ?_
      rw [hmn, w64 (x := 8 * (b.length : Int)) (by omega) (by omega), w64 (x := (p : Int) + (s : Int)) (by omega) (by omega)]
      refine ev_pos (by omega) (ev_bind hat ?_)
      by_cases hv : val b p s = 0
      · refine ev_pos (by simp [hv]) ?_
        have := ih (p + s) (by omega) (by omega)
        rw [show ((p + s : Nat) : Int) = (p : Int) + (s : Int) by omega] at this
        refine ev_eq this ?_
        rw [decide_eq_decide]
        constructor
        · intro h q hq hpq
          rcases Nat.lt_or_ge q (p + s) with h' | h'
          · have := hz.1 hv (q - p) (by omega)
            rwa [show p + (q - p) = q by omega] at this
          · exact h q hq h'
        · intro h q hq hpq
          exact h q hq (by omega)
      · refine ev_neg (by simp; omega) (ev_eq (Ev.now _) ?_)
        rw [eq_comm, decide_eq_false_iff_not]
        intro h
        exact hv (hz.2 (fun j hj => h (p + j) (by omega) (by omega)))
    · refine ev_eq (ev_stop (r := true) fun k => by rw [bits_Clear.l0, w64 (by omega) (by omega), if_neg (by omega)]) ?_
      rw [eq_comm, decide_eq_true_iff]
      intro q hq hpq
      omega
theorem clear_ev {b : List Int} (hb : Byt b) (hl : b.length < 1000000) (p : Int) : Ev (fun k => bits_Clear.f k b p) (clr b p) := by
  unfold bits_Clear.f clr
  by_cases h : p < 0
  · rw [if_pos h]; exact ev_pos h (Ev.now _)
  · rw [if_neg h]
    refine ev_neg h ?_
    by_cases hp : p.toNat ≤ 8 * b.length
    · have := clear_loop hb hl _ p.toNat (Nat.le_refl _) hp
      rw [show ((p.toNat : Nat) : Int) = p by omega] at this
      exact this
    · refine ev_eq (ev_stop (r := true) fun k => by rw [bits_Clear.l0, w64 (by omega) (by omega), if_neg (by omega)]) ?_
      rw [eq_comm, decide_eq_true_iff]
      intro q hq hpq
      omega
end Go.Proofs.Ythkpnnbjcendcaa.Pure
