/- Ps, Pse, Pfo, Ppt, Psm, Pn, Mk, Op, Prs, Rmk, Rpp, Fs, put together. -/
import Derived.Test.YthkpnnbjcendcaaGaQb
import Derived.Test.YthkpnnbjcendcaaXaQb
section
/- Steps: the plain functions. -/
set_option linter.unusedVariables false
open Go.RowKit Go.Proofs.Ythkpnnbjcendcaa.X Go.Proofs.Ythkpnnbjcendcaa.Pl Go.Proofs.YthkpnnbjcendcaaW.PrintWords Go.Proofs.YthkpnnbjcendcaaW.PrintLast Go.Proofs.YthkpnnbjcendcaaW.PrintMore
namespace Go.Proofs.Ythkpnnbjcendcaa.Pure
/-- Of each number, by how much its step is more than the step ahead. -/
def secs : Int → Int → List Int → List Int
  | _, _, [] => []
  | a, b, n :: l => wrap64 (wrap64 (n - a) - b) :: secs n (wrap64 (n - a)) l
/-- The numbers whose secs that is. -/
def frs : Int → Int → List Int → List Int
  | _, _, [] => []
  | a, b, s :: l => wrap64 (a + wrap64 (b + s)) :: frs (wrap64 (a + wrap64 (b + s))) (wrap64 (b + s)) l
def fits64 (x : Int) : Prop := -9223372036854775808 ≤ x ∧ x ≤ 9223372036854775807
/-- A number that may be below 0 as one that is not. -/
def foldN (n : Int) : Nat := if 0 ≤ n then (2 * n).toNat else (-2 * n - 1).toNat
/-- The bits of a number's mark. -/
def markB (n : Int) : List Bool :=
  let u := foldN n
  if u = 0 then [false] else if u < 128 then nb 2 2 ++ nb u 7 else if u < 16384 then nb 6 3 ++ nb u 14 else if u < 4294967296 then nb 14 4 ++ nb u 32 else nb 15 4 ++ nb u 64
/-- The bits of points: of each its time's mark, and its value's. -/
def marks : List Int → List Int → List Bool
  | x :: xs, y :: ys => markB x ++ markB y ++ marks xs ys
  | _, _ => []
/-- A number in groups of seven bits. -/
def varint (n : Nat) : List Int := if h : n < 128 then [(n : Int)] else ((n % 128 + 128 : Nat) : Int) :: varint (n / 128)
termination_by n
decreasing_by omega
end Go.Proofs.Ythkpnnbjcendcaa.Pure
end
section
/- Seconds, one by one. -/
set_option linter.unusedVariables false
open Go.RowKit Go.Proofs.Ythkpnnbjcendcaa.X Go.Proofs.Ythkpnnbjcendcaa.Pl Go.Proofs.YthkpnnbjcendcaaW.PrintWords Go.Proofs.YthkpnnbjcendcaaW.PrintLast Go.Proofs.YthkpnnbjcendcaaW.PrintMore
namespace Go.Proofs.Ythkpnnbjcendcaa.Pure
theorem secs_get (l : List Int) : ∀ (a b : Int) (j : Nat), j < l.length →
    (secs a b l).getD j 0 = if j = 0 then wrap64 (wrap64 (l.getD 0 0 - a) - b) else if j = 1 then wrap64 (wrap64 (l.getD 1 0 - l.getD 0 0) - wrap64 (l.getD 0 0 - a)) else wrap64 (wrap64 (l.getD j 0 - l.getD (j - 1) 0) - wrap64 (l.getD (j - 1) 0 - l.getD (j - 2) 0)) := by
  induction l with
  | nil => intro a b j h; simp at h
  | cons x l ih =>
    intro a b j h
    rw [secs]
    match j with
    | 0 => simp
    | 1 =>
      have := ih x (wrap64 (x - a)) 0 (by simp only [List.length_cons] at h; omega)
      simp only [List.getD_cons_succ, List.getD_cons_zero] at this ⊢
      rw [this]
      simp
    | 2 =>
      have := ih x (wrap64 (x - a)) 1 (by simp only [List.length_cons] at h; omega)
      simp only [List.getD_cons_succ, List.getD_cons_zero] at this ⊢
      rw [this]
      simp
    | (j + 3) =>
      have := ih x (wrap64 (x - a)) (j + 2) (by simp only [List.length_cons] at h; omega)
      simp only [List.getD_cons_succ] at this ⊢
      rw [this, if_neg (by omega), if_neg (by omega), if_neg (by omega), if_neg (by omega)]
      rw [show j + 2 - 1 = j + 1 by omega, show j + 2 - 2 = j by omega, show j + 3 - 1 = (j + 1) + 1 by omega, show j + 3 - 2 = j + 1 by omega]
      simp only [List.getD_cons_succ]
/-- Numbers with steps that are all the same. -/
def lineL (n step : Int) (k : Nat) : List Int := (List.range k).map fun (i : Nat) => wrap64 (n + wrap64 ((i : Int) * step))
end Go.Proofs.Ythkpnnbjcendcaa.Pure
end
section
/- Fold and Open, the program's and the reference's. -/
set_option linter.unusedVariables false
open Go.RowKit Go.Proofs.Ythkpnnbjcendcaa.X Go.Proofs.Ythkpnnbjcendcaa.Pl Go.Proofs.YthkpnnbjcendcaaW.PrintWords Go.Proofs.YthkpnnbjcendcaaW.PrintLast Go.Proofs.YthkpnnbjcendcaaW.PrintMore
namespace Go.Proofs.Ythkpnnbjcendcaa.Pure
end Go.Proofs.Ythkpnnbjcendcaa.Pure
end
section
/- Points: whether they rise, and their marks. -/
set_option linter.unusedVariables false
open Go.RowKit Go.Proofs.Ythkpnnbjcendcaa.X Go.Proofs.Ythkpnnbjcendcaa.Pl Go.Proofs.YthkpnnbjcendcaaW.PrintWords Go.Proofs.YthkpnnbjcendcaaW.PrintLast Go.Proofs.YthkpnnbjcendcaaW.PrintMore
namespace Go.Proofs.Ythkpnnbjcendcaa.Pure
/-- Do they rise? -/
def rightB (l : List S52) : Bool := decide (∀ i : Nat, i < l.length → 0 < i → (rd_T52 l ((i - 1 : Nat) : Int)).f0 < (rd_T52 l (i : Int)).f0)
/-- The bits of points, from pairs on. -/
def marksP (a b c d : Int) (l : List S52) : List Bool := marks (secs a b (l.map (·.f0))) (secs c d (l.map (·.f1)))
/-- What points come to: their bytes and an error. -/
def putB (l : List S52) : List Int := varint l.length ++ pack (marksP 0 0 0 0 l)
theorem rd52_mem {l : List S52} {i : Nat} (h : i < l.length) : rd_T52 l (i : Int) ∈ l := by
  unfold rd_T52
  rw [Int.toNat_natCast, getD_lt _ _ _ h]
  exact List.getElem_mem h
end Go.Proofs.Ythkpnnbjcendcaa.Pure
end
section
/- Points with even steps: what Put makes of them. -/
set_option linter.unusedVariables false
set_option linter.unusedSimpArgs false
open Go.RowKit Go.Proofs.Ythkpnnbjcendcaa.X Go.Proofs.Ythkpnnbjcendcaa.Pl Go.Proofs.YthkpnnbjcendcaaW.PrintWords Go.Proofs.YthkpnnbjcendcaaW.PrintLast Go.Proofs.YthkpnnbjcendcaaW.PrintMore
namespace Go.Proofs.Ythkpnnbjcendcaa.Pure
end Go.Proofs.Ythkpnnbjcendcaa.Pure
end
section
/- A pair's next and back, Seconds and Firsts, walked. -/
set_option linter.unusedVariables false
set_option linter.unusedSimpArgs false
open Go.RowKit Go.Proofs.Ythkpnnbjcendcaa.X Go.Proofs.Ythkpnnbjcendcaa.Pl Go.Proofs.Ythkpnnbjcendcaa.Sp Go.Proofs.Ythkpnnbjcendcaa.Pure Go.Proofs.YthkpnnbjcendcaaW.PrintWords Go.Proofs.YthkpnnbjcendcaaW.PrintLast Go.Proofs.YthkpnnbjcendcaaW.PrintMore
namespace Go.Proofs.Ythkpnnbjcendcaa.Sc
/-- A pair in memory. -/
abbrev pairR (g : Nat) (a b : Int) : Res := box g #[.int .i64 a, .int .i64 b] 87
end Go.Proofs.Ythkpnnbjcendcaa.Sc
end
section
/- A number's mark laid behind bits, walked. -/
set_option linter.unusedVariables false
set_option linter.unusedSimpArgs false
open Go.RowKit Go.Proofs.Ythkpnnbjcendcaa.X Go.Proofs.Ythkpnnbjcendcaa.Pl Go.Proofs.Ythkpnnbjcendcaa.Sp Go.Proofs.Ythkpnnbjcendcaa.Pure Go.Proofs.YthkpnnbjcendcaaW.PrintWords Go.Proofs.YthkpnnbjcendcaaW.PrintLast Go.Proofs.YthkpnnbjcendcaaW.PrintMore
namespace Go.Proofs.Ythkpnnbjcendcaa.Sc
/-- What the widths ahead have told. -/
def lowU : Nat → Nat → Prop
  | 0, _ => True
  | 1, u => 0 < u
  | 2, u => 128 ≤ u
  | 3, u => 16384 ≤ u
  | _, u => 4294967296 ≤ u
end Go.Proofs.Ythkpnnbjcendcaa.Sc
end
section
/- octs.Put, walked: bytes, and a number behind them. -/
set_option linter.unusedVariables false
set_option linter.unusedSimpArgs false
open Go.RowKit Go.Proofs.Ythkpnnbjcendcaa.X Go.Proofs.Ythkpnnbjcendcaa.Pl Go.Proofs.Ythkpnnbjcendcaa.Sp Go.Proofs.Ythkpnnbjcendcaa.Pure Go.Proofs.YthkpnnbjcendcaaW.PrintWords Go.Proofs.YthkpnnbjcendcaaW.PrintLast Go.Proofs.YthkpnnbjcendcaaW.PrintMore
namespace Go.Proofs.Ythkpnnbjcendcaa.Pure
end Go.Proofs.Ythkpnnbjcendcaa.Pure
namespace Go.Proofs.Ythkpnnbjcendcaa.Sc
end Go.Proofs.Ythkpnnbjcendcaa.Sc
end
section
/- The reference's Seconds, Firsts and Ints. -/
set_option linter.unusedVariables false
open Go.RowKit Go.Proofs.Ythkpnnbjcendcaa.X Go.Proofs.Ythkpnnbjcendcaa.Pl Go.Proofs.YthkpnnbjcendcaaW.PrintWords Go.Proofs.YthkpnnbjcendcaaW.PrintLast Go.Proofs.YthkpnnbjcendcaaW.PrintMore
namespace Go.Proofs.Ythkpnnbjcendcaa.Pure
/-- What comes of numbers to all of which the same is added. -/
theorem shift_secs (l : List Int) (by_ : Int) (hl : ∀ x ∈ l, fits64 x) (hb : fits64 by_) (j : Nat) (h : j < l.length) :
    (secs 0 0 (l.map fun x => wrap64 (x + by_))).getD j 0 = if j = 0 then wrap64 ((secs 0 0 l).getD j 0 + by_) else if j = 1 then wrap64 ((secs 0 0 l).getD j 0 - by_) else (secs 0 0 l).getD j 0 := by
  have hm : ∀ i, i < l.length → (l.map fun x => wrap64 (x + by_)).getD i 0 = wrap64 (l.getD i 0 + by_) := by
    intro i hi
    rw [List.getD_eq_getElem?_getD, List.getD_eq_getElem?_getD]
    simp [hi]
  have hf : ∀ i, i < l.length → fits64 (l.getD i 0) := by
    intro i hi
    rw [getD_lt _ _ _ hi]
    exact hl _ (List.getElem_mem hi)
  unfold fits64 at hb hf
  rw [secs_get _ _ _ _ (by rw [List.length_map]; exact h), secs_get _ _ _ _ h]
  match j with
  | 0 =>
    have := hf 0 h
    rw [if_pos rfl, if_pos rfl, if_pos rfl, hm 0 h]
    unfold wrap64
    omega
  | 1 =>
    have h0 := hf 0 (by omega)
    have h1 := hf 1 h
    rw [if_neg (by omega), if_pos rfl, if_neg (by omega), if_pos rfl, if_neg (by omega), if_pos rfl, hm 1 h, hm 0 (by omega)]
    unfold wrap64
    omega
  | (j + 2) =>
    have h0 := hf j (by omega)
    have h1 := hf (j + 1) (by omega)
    have h2 := hf (j + 2) h
    rw [if_neg (by omega), if_neg (by omega), if_neg (by omega), if_neg (by omega), if_neg (by omega), if_neg (by omega), show j + 2 - 1 = j + 1 by omega, show j + 2 - 2 = j by omega, hm _ h, hm _ (by omega), hm _ (by omega)]
    unfold wrap64
    omega
end Go.Proofs.Ythkpnnbjcendcaa.Pure
end
section
/- The reference's mark, walked. -/
set_option linter.unusedVariables false
set_option linter.unusedSimpArgs false
open Go.RowKit Go.Proofs.Ythkpnnbjcendcaa.X Go.Proofs.Ythkpnnbjcendcaa.Pl Go.Proofs.Ythkpnnbjcendcaa.Sp Go.Proofs.Ythkpnnbjcendcaa.Pure Go.Proofs.YthkpnnbjcendcaaW.PrintWords Go.Proofs.YthkpnnbjcendcaaW.PrintLast Go.Proofs.YthkpnnbjcendcaaW.PrintMore
namespace Go.Proofs.Ythkpnnbjcendcaa.Sc
end Go.Proofs.Ythkpnnbjcendcaa.Sc
end
section
/- The reference's Put of numbers and split of points, as plain functions. -/
set_option linter.unusedVariables false
open Go.RowKit Go.Proofs.Ythkpnnbjcendcaa.X Go.Proofs.Ythkpnnbjcendcaa.Pl Go.Proofs.YthkpnnbjcendcaaW.PrintWords Go.Proofs.YthkpnnbjcendcaaW.PrintLast Go.Proofs.YthkpnnbjcendcaaW.PrintMore
namespace Go.Proofs.Ythkpnnbjcendcaa.Pure
/-- The marks of points are those of their numbers' Seconds, one by one. -/
theorem marks_step (a b : List Int) (j : Nat) (ha : j < a.length) (hb : j < b.length) : marks (a.take (j + 1)) (b.take (j + 1)) = marks (a.take j) (b.take j) ++ markB (rd a (j : Int)) ++ markB (rd b (j : Int)) := by
  induction j generalizing a b with
  | zero =>
    match a, b, ha, hb with
    | x :: a, y :: b, _, _ => simp [marks, rd]
  | succ j ih =>
    match a, b, ha, hb with
    | x :: a, y :: b, ha, hb =>
      have h1 := ih a b (by simpa using ha) (by simpa using hb)
      simp only [List.take_succ_cons, marks, h1, List.append_assoc]
      simp [rd]
end Go.Proofs.Ythkpnnbjcendcaa.Pure
end
section
/- The few of the laws of layer 4: the head of a list. -/
set_option linter.unusedVariables false
set_option linter.unusedSimpArgs false
open Go.RowKit Go.Proofs.Ythkpnnbjcendcaa.X Go.Proofs.Ythkpnnbjcendcaa.Pl Go.Proofs.Ythkpnnbjcendcaa.Sp Go.Proofs.Ythkpnnbjcendcaa.Sc Go.Proofs.Ythkpnnbjcendcaa.Pure Go.Proofs.YthkpnnbjcendcaaW.PrintWords Go.Proofs.YthkpnnbjcendcaaW.PrintLast Go.Proofs.YthkpnnbjcendcaaW.PrintMore
namespace Go.Proofs.Ythkpnnbjcendcaa.Sc
end Go.Proofs.Ythkpnnbjcendcaa.Sc
end

