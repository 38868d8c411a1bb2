/- The sum of bytes as a plain function: a byte turned turns it. -/
import Derived.Test.YthkpnnbjcendcaaGbQc
import Derived.Laws.BitsAllLaws
set_option linter.unusedVariables false
set_option linter.unusedSimpArgs false
open Go.RowKit Go.Proofs.Ythkpnnbjcendcaa.X Go.Proofs.Ythkpnnbjcendcaa.Pl Go.Proofs.YthkpnnbjcendcaaW.PrintWords Go.Proofs.YthkpnnbjcendcaaW.PrintLast Go.Proofs.YthkpnnbjcendcaaW.PrintMore
namespace Go.Proofs.Ythkpnnbjcendcaa.Pure
/-- One bit more. -/
def crc1 (s : Nat) : Nat := if s < 2147483648 then 2 * s else (2 * (s - 2147483648)) ^^^ 79764919
def crcK : Nat → Nat → Nat
  | 0, s => s
  | k + 1, s => crcK k (crc1 s)
/-- One byte more. -/
def crcB (s : Nat) (c : Int) : Nat := crcK 8 (s ^^^ (c.toNat * 16777216))
def crcL (s : Nat) (b : List Int) : Nat := b.foldl crcB s
theorem crcL_nil (s : Nat) : crcL s [] = s := rfl
theorem crcL_cons (s : Nat) (c : Int) (b : List Int) : crcL s (c :: b) = crcL (crcB s c) b := by unfold crcL; rw [List.foldl_cons]
theorem crcK_zero (s : Nat) : crcK 0 s = s := rfl
theorem crcK_one (k s : Nat) : crcK (k + 1) s = crcK k (crc1 s) := rfl
def sumN (b : List Int) : Nat := crcL 4294967295 b ^^^ 4294967295
theorem crc1_lt {s : Nat} (h : s < 4294967296) : crc1 s < 4294967296 := by
  unfold crc1
  split
  · omega
  · exact Nat.xor_lt_two_pow (n := 32) (by omega) (by decide)
theorem crcK_lt (k : Nat) : ∀ {s : Nat}, s < 4294967296 → crcK k s < 4294967296 := by
  induction k with
  | zero => intro s h; exact h
  | succ k ih => intro s h; rw [crcK_one]; exact ih (crc1_lt h)
theorem crcB_lt {s : Nat} {c : Int} (h : s < 4294967296) (hc : 0 ≤ c ∧ c ≤ 255) : crcB s c < 4294967296 := crcK_lt 8 (Nat.xor_lt_two_pow (n := 32) h (by omega))
theorem crcL_lt {b : List Int} (hb : Byt b) : ∀ {s : Nat}, s < 4294967296 → crcL s b < 4294967296 := by
  induction b with
  | nil => intro s h; rw [crcL_nil]; exact h
  | cons c b ih =>
    intro s h
    rw [crcL_cons]
    exact ih (fun x hx => hb x (List.mem_cons_of_mem _ hx)) (crcB_lt h (hb c List.mem_cons_self))
theorem sumN_lt {b : List Int} (hb : Byt b) : sumN b < 4294967296 := Nat.xor_lt_two_pow (n := 32) (crcL_lt hb (by decide)) (by decide)
theorem xor_can {a b c : Nat} (h : a ^^^ c = b ^^^ c) : a = b := by
  have := congrArg (· ^^^ c) h
  simpa [Nat.xor_assoc] using this
theorem odd_xor (m : Nat) : (2 * m ^^^ 79764919) % 2 = 1 := by
  have h : (2 * m ^^^ 79764919).testBit 0 = true := by
    rw [Nat.testBit_xor]
    simp [Nat.testBit_zero]
  rw [Nat.testBit_zero] at h
  exact of_decide_eq_true h
theorem crc1_inj {s t : Nat} (h : crc1 s = crc1 t) : s = t := by
  unfold crc1 at h
  split at h <;> split at h
  · omega
  · have := odd_xor (t - 2147483648)
    omega
  · have := odd_xor (s - 2147483648)
    omega
  · have := xor_can h
    omega
theorem crcK_inj (k : Nat) : ∀ {s t : Nat}, crcK k s = crcK k t → s = t := by
  induction k with
  | zero => intro s t h; exact h
  | succ k ih => intro s t h; rw [crcK_one, crcK_one] at h; exact crc1_inj (ih h)
theorem crcB_inj {s t : Nat} {c : Int} (h : crcB s c = crcB t c) : s = t := xor_can (crcK_inj 8 h)
theorem crcB_byte {s : Nat} {c d : Int} (hc : 0 ≤ c) (hd : 0 ≤ d) (h : crcB s c = crcB s d) : c = d := by
  have h := crcK_inj 8 h
  rw [Nat.xor_comm s, Nat.xor_comm s] at h
  have := xor_can h
  omega
theorem crcL_inj (b : List Int) : ∀ {s t : Nat}, crcL s b = crcL t b → s = t := by
  induction b with
  | nil => intro s t h; rw [crcL_nil, crcL_nil] at h; exact h
  | cons c b ih =>
    intro s t h
    rw [crcL_cons, crcL_cons] at h
    exact crcB_inj (ih h)
theorem crcL_set (b : List Int) : ∀ (s k : Nat) (x : Int) (hk : k < b.length), Byt b → 0 ≤ x → crcL s (b.set k x) = crcL s b → b[k]'hk = x := by
  induction b with
  | nil => intro s k x hk; simp at hk
  | cons c b ih =>
    intro s k x hk hb hx h
    cases k with
    | zero =>
      rw [List.set_cons_zero, crcL_cons, crcL_cons] at h
      have h := crcL_inj b h
      exact (crcB_byte hx (hb c List.mem_cons_self).1 h).symm
    | succ k =>
      rw [List.set_cons_succ, crcL_cons, crcL_cons] at h
      rw [List.getElem_cons_succ]
      exact ih (crcB s c) k x (by simpa using hk) (fun y hy => hb y (List.mem_cons_of_mem _ hy)) hx h
/-- A byte turned turns the sum. -/
theorem sumN_set {b : List Int} {k : Nat} {x : Int} (hk : k < b.length) (hb : Byt b) (hx : 0 ≤ x) (h : sumN (b.set k x) = sumN b) : b[k] = x := crcL_set b _ k x hk hb hx (xor_can h)
theorem crcL_take_succ (s : Nat) (b : List Int) (i : Nat) (hi : i < b.length) : crcL s (b.take (i + 1)) = crcB (crcL s (b.take i)) b[i] := by
  unfold crcL
  rw [List.take_succ_eq_append_getElem hi, List.foldl_append, List.foldl_cons, List.foldl_nil]
theorem crcK_succ (k s : Nat) : crcK (k + 1) s = crc1 (crcK k s) := by
  induction k generalizing s with
  | zero => rfl
  | succ k ih => rw [crcK_one, ih, crcK_one]
/-- The four bytes of a sum. -/
def footL (s : Nat) : List Int := [((s / 16777216 : Nat) : Int) % 256, ((s / 65536 : Nat) : Int) % 256, ((s / 256 : Nat) : Int) % 256, (s : Int) % 256]
theorem footL_byt (s : Nat) : Byt (footL s) := by
  intro x hx
  simp only [footL, List.mem_cons, List.not_mem_nil, or_false] at hx
  rcases hx with rfl | rfl | rfl | rfl <;> omega
/-- Bytes behind how many they are, and their sum behind them. -/
def sealL (b : List Int) : List Int := varint b.length ++ b ++ footL (sumN (varint b.length ++ b))
/-- The program's words for a bit more. -/
theorem crc_prog {s : Nat} (h : s < 4294967296) : Go.bits .xor .u32 (((2 * s % 4294967296 : Nat) : Int)) (((79764919 * (s / 2147483648)) % 4294967296 : Nat) : Int) = (crc1 s : Int) := by
  rw [u32_xor_nat _ _ (Nat.mod_lt _ (by decide)) (Nat.mod_lt _ (by decide))]
  unfold crc1
  split
  · have h1 : s / 2147483648 = 0 := by omega
    rw [h1, show (79764919 * 0) % 4294967296 = 0 from rfl, Nat.xor_zero, Nat.mod_eq_of_lt (by omega)]
  · have h1 : s / 2147483648 = 1 := by omega
    have h2 : 2 * s % 4294967296 = 2 * (s - 2147483648) := by omega
    rw [h1, h2]
end Go.Proofs.Ythkpnnbjcendcaa.Pure

