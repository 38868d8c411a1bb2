/- Steps: the plain functions. -/
import Derived.Test.YthkpnnbjcendcaaBt
set_option linter.unusedVariables false
open Go.RowKit Go.Proofs.Ythkpnnbjcendcaa.X Go.Proofs.Ythkpnnbjcendcaa.Pl Go.Proofs.YthkpnnbjcendcaaW.PrintWords Go.Proofs.YthkpnnbjcendcaaW.PrintLast Go.Proofs.YthkpnnbjcendcaaW.PrintMore
namespace Go.Proofs.Ythkpnnbjcendcaa.Pure
/-- Of each number, by how much its step is more than the step ahead. -/
def secs : Int → Int → List Int → List Int
  | _, _, [] => []
  | a, b, n :: l => wrap64 (wrap64 (n - a) - b) :: secs n (wrap64 (n - a)) l
theorem secs_length (a b : Int) (l : List Int) : (secs a b l).length = l.length := by
  induction l generalizing a b with
  | nil => rfl
  | cons n l ih => simp [secs, ih]
/-- The numbers whose secs that is. -/
def frs : Int → Int → List Int → List Int
  | _, _, [] => []
  | a, b, s :: l => wrap64 (a + wrap64 (b + s)) :: frs (wrap64 (a + wrap64 (b + s))) (wrap64 (b + s)) l
theorem frs_length (a b : Int) (l : List Int) : (frs a b l).length = l.length := by
  induction l generalizing a b with
  | nil => rfl
  | cons n l ih => simp [frs, ih]
def fits64 (x : Int) : Prop := -9223372036854775808 ≤ x ∧ x ≤ 9223372036854775807
theorem fits_wrap (x : Int) : fits64 (wrap64 x) := by unfold fits64 wrap64; omega
theorem frs_secs (a b : Int) (l : List Int) (hl : ∀ x ∈ l, fits64 x) : frs a b (secs a b l) = l := by
  induction l generalizing a b with
  | nil => rfl
  | cons n l ih =>
    have hn := hl n List.mem_cons_self
    have h1 : wrap64 (b + wrap64 (wrap64 (n - a) - b)) = wrap64 (n - a) := by unfold wrap64; omega
    have h2 : wrap64 (a + wrap64 (n - a)) = n := by unfold fits64 at hn; unfold wrap64; omega
    simp only [secs, frs, h1, h2]
    rw [ih _ _ (fun x hx => hl x (List.mem_cons_of_mem _ hx))]
theorem secs_frs (a b : Int) (l : List Int) (hl : ∀ x ∈ l, fits64 x) : secs a b (frs a b l) = l := by
  induction l generalizing a b with
  | nil => rfl
  | cons s l ih =>
    have hn := hl s List.mem_cons_self
    have h1 : wrap64 (wrap64 (a + wrap64 (b + s)) - a) = wrap64 (b + s) := by unfold wrap64; omega
    have h2 : wrap64 (wrap64 (b + s) - b) = s := by unfold fits64 at hn; unfold wrap64; omega
    simp only [secs, frs, h1, h2]
    rw [ih _ _ (fun x hx => hl x (List.mem_cons_of_mem _ hx))]
/-- A number that may be below 0 as one that is not. -/
def foldN (n : Int) : Nat := if 0 ≤ n then (2 * n).toNat else (-2 * n - 1).toNat
/-- The bits of a number's mark. -/
def markB (n : Int) : List Bool :=
  let u := foldN n
  if u = 0 then [false] else if u < 128 then nb 2 2 ++ nb u 7 else if u < 16384 then nb 6 3 ++ nb u 14 else if u < 4294967296 then nb 14 4 ++ nb u 32 else nb 15 4 ++ nb u 64
theorem markB_length (n : Int) : (markB n).length ≤ 68 := by
  unfold markB
  dsimp only
  (repeat' split) <;> simp [nb_length]
/-- The bits of points: of each its time's mark, and its value's. -/
def marks : List Int → List Int → List Bool
  | x :: xs, y :: ys => markB x ++ markB y ++ marks xs ys
  | _, _ => []
/-- A number in groups of seven bits. -/
def varint (n : Nat) : List Int := if h : n < 128 then [(n : Int)] else ((n % 128 + 128 : Nat) : Int) :: varint (n / 128)
termination_by n
decreasing_by omega
end Go.Proofs.Ythkpnnbjcendcaa.Pure
