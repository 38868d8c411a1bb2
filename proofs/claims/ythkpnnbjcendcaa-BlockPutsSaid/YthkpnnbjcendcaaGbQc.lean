/- Ps, Pse, Pfo, Ppt, Psm, Pn, Mk, Op, Prs, Rmk, Rpp, Fs, put together. -/
import Derived.Test.YthkpnnbjcendcaaGaQc
import Derived.Test.YthkpnnbjcendcaaXaQc
section
/- Steps: the plain functions. -/
set_option linter.unusedVariables false
open Go.RowKit Go.Proofs.Ythkpnnbjcendcaa.X Go.Proofs.Ythkpnnbjcendcaa.Pl Go.Proofs.YthkpnnbjcendcaaW.PrintWords Go.Proofs.YthkpnnbjcendcaaW.PrintLast Go.Proofs.YthkpnnbjcendcaaW.PrintMore
namespace Go.Proofs.Ythkpnnbjcendcaa.Pure
/-- Of each number, by how much its step is more than the step ahead. -/
def secs : Int → Int → List Int → List Int
  | _, _, [] => []
  | a, b, n :: l => wrap64 (wrap64 (n - a) - b) :: secs n (wrap64 (n - a)) l
theorem secs_length (a b : Int) (l : List Int) : (secs a b l).length = l.length := by
  induction l generalizing a b with
  | nil => rfl
  | cons n l ih => simp [secs, ih]
/-- The numbers whose secs that is. -/
def frs : Int → Int → List Int → List Int
  | _, _, [] => []
  | a, b, s :: l => wrap64 (a + wrap64 (b + s)) :: frs (wrap64 (a + wrap64 (b + s))) (wrap64 (b + s)) l
def fits64 (x : Int) : Prop := -9223372036854775808 ≤ x ∧ x ≤ 9223372036854775807
theorem fits_wrap (x : Int) : fits64 (wrap64 x) := by unfold fits64 wrap64; omega
/-- A number that may be below 0 as one that is not. -/
def foldN (n : Int) : Nat := if 0 ≤ n then (2 * n).toNat else (-2 * n - 1).toNat
/-- The bits of a number's mark. -/
def markB (n : Int) : List Bool :=
  let u := foldN n
  if u = 0 then [false] else if u < 128 then nb 2 2 ++ nb u 7 else if u < 16384 then nb 6 3 ++ nb u 14 else if u < 4294967296 then nb 14 4 ++ nb u 32 else nb 15 4 ++ nb u 64
theorem markB_length (n : Int) : (markB n).length ≤ 68 := by
  unfold markB
  dsimp only
  (repeat' split) <;> simp [nb_length]
/-- The bits of points: of each its time's mark, and its value's. -/
def marks : List Int → List Int → List Bool
  | x :: xs, y :: ys => markB x ++ markB y ++ marks xs ys
  | _, _ => []
/-- A number in groups of seven bits. -/
def varint (n : Nat) : List Int := if h : n < 128 then [(n : Int)] else ((n % 128 + 128 : Nat) : Int) :: varint (n / 128)
termination_by n
decreasing_by omega
end Go.Proofs.Ythkpnnbjcendcaa.Pure
end
section
/- Seconds, one by one. -/
set_option linter.unusedVariables false
open Go.RowKit Go.Proofs.Ythkpnnbjcendcaa.X Go.Proofs.Ythkpnnbjcendcaa.Pl Go.Proofs.YthkpnnbjcendcaaW.PrintWords Go.Proofs.YthkpnnbjcendcaaW.PrintLast Go.Proofs.YthkpnnbjcendcaaW.PrintMore
namespace Go.Proofs.Ythkpnnbjcendcaa.Pure
theorem secs_get (l : List Int) : ∀ (a b : Int) (j : Nat), j < l.length →
    (secs a b l).getD j 0 = if j = 0 then wrap64 (wrap64 (l.getD 0 0 - a) - b) else if j = 1 then wrap64 (wrap64 (l.getD 1 0 - l.getD 0 0) - wrap64 (l.getD 0 0 - a)) else wrap64 (wrap64 (l.getD j 0 - l.getD (j - 1) 0) - wrap64 (l.getD (j - 1) 0 - l.getD (j - 2) 0)) := by
  induction l with
  | nil => intro a b j h; simp at h
  | cons x l ih =>
    intro a b j h
    rw [secs]
    match j with
    | 0 => simp
    | 1 =>
      have := ih x (wrap64 (x - a)) 0 (by simp only [List.length_cons] at h; omega)
      simp only [List.getD_cons_succ, List.getD_cons_zero] at this ⊢
      rw [this]
      simp
    | 2 =>
      have := ih x (wrap64 (x - a)) 1 (by simp only [List.length_cons] at h; omega)
      simp only [List.getD_cons_succ, List.getD_cons_zero] at this ⊢
      rw [this]
      simp
    | (j + 3) =>
      have := ih x (wrap64 (x - a)) (j + 2) (by simp only [List.length_cons] at h; omega)
      simp only [List.getD_cons_succ] at this ⊢
      rw [this, if_neg (by omega), if_neg (by omega), if_neg (by omega), if_neg (by omega)]
      rw [show j + 2 - 1 = j + 1 by omega, show j + 2 - 2 = j by omega, show j + 3 - 1 = (j + 1) + 1 by omega, show j + 3 - 2 = j + 1 by omega]
      simp only [List.getD_cons_succ]
theorem rd_get (l : List Int) (j : Nat) : rd l (j : Int) = l.getD j 0 := by unfold rd; rw [Int.toNat_natCast]
/-- Numbers with steps that are all the same. -/
def lineL (n step : Int) (k : Nat) : List Int := (List.range k).map fun (i : Nat) => wrap64 (n + wrap64 ((i : Int) * step))
end Go.Proofs.Ythkpnnbjcendcaa.Pure
end
section
/- Fold and Open, the program's and the reference's. -/
set_option linter.unusedVariables false
open Go.RowKit Go.Proofs.Ythkpnnbjcendcaa.X Go.Proofs.Ythkpnnbjcendcaa.Pl Go.Proofs.YthkpnnbjcendcaaW.PrintWords Go.Proofs.YthkpnnbjcendcaaW.PrintLast Go.Proofs.YthkpnnbjcendcaaW.PrintMore
namespace Go.Proofs.Ythkpnnbjcendcaa.Pure
theorem u64_wrap (x : Int) : IntKind.u64.wrap x = x % 18446744073709551616 := by simp [IntKind.wrap, IntKind.bits, IntKind.signed]
theorem foldN_lt {n : Int} (h : fits64 n) : foldN n < 2 ^ 64 := by
  unfold foldN
  unfold fits64 at h
  split <;> omega
theorem xor_run (a : Nat) (ha : a < 2 ^ 64) (b : Int) : Go.bits .xor .u64 (a : Int) b = ((BitVec.ofNat 64 a ^^^ BitVec.ofInt 64 b).toNat : Int) := by
  have h1 : (BitVec.ofNat 64 a ^^^ BitVec.ofInt 64 b).toNat < 2 ^ 64 := BitVec.isLt _
  show IntKind.u64.wrap ((BitVec.ofInt 64 (a : Int) ^^^ BitVec.ofInt 64 b).toNat : Int) = _
  rw [BitVec.ofInt_natCast]
  exact w_u64 (Int.natCast_nonneg _) (by exact_mod_cast h1)
theorem xor_ones (a : Nat) (ha : a < 2 ^ 64) : Go.bits .xor .u64 (a : Int) 18446744073709551615 = ((2 ^ 64 - 1 - a : Nat) : Int) := by
  rw [xor_run a ha, show BitVec.ofInt 64 18446744073709551615 = BitVec.allOnes 64 by decide, BitVec.xor_allOnes, BitVec.toNat_not, BitVec.toNat_ofNat, Nat.mod_eq_of_lt ha]
theorem xor_zero (a : Nat) (ha : a < 2 ^ 64) : Go.bits .xor .u64 (a : Int) 0 = (a : Int) := by
  rw [xor_run a ha, show BitVec.ofInt 64 0 = 0#64 by decide, BitVec.xor_zero, BitVec.toNat_ofNat, Nat.mod_eq_of_lt ha]
theorem fold_f {n : Int} (h : fits64 n) : octs_Fold.f n = some (foldN n : Int) := by
  unfold octs_Fold.f foldN
  unfold fits64 at h
  by_cases h0 : 0 ≤ n
  · rw [if_pos h0, u64_wrap, u64_wrap, u64_wrap, show n / 9223372036854775808 % 18446744073709551616 = 0 by omega, show n % 18446744073709551616 * 2 % 18446744073709551616 = (((2 * n).toNat : Nat) : Int) by omega, xor_zero _ (by omega)]
  · rw [if_neg h0, u64_wrap, u64_wrap, u64_wrap, show n / 9223372036854775808 % 18446744073709551616 = 18446744073709551615 by omega, show n % 18446744073709551616 * 2 % 18446744073709551616 = (((2 * n + 18446744073709551616).toNat : Nat) : Int) by omega, xor_ones _ (by omega)]
    congr 1
    omega
theorem ref_fold_f {n : Int} (h : fits64 n) : marigraphref01_Fold.f n = some (foldN n : Int) := by
  unfold marigraphref01_Fold.f foldN
  unfold fits64 at h
  by_cases h0 : 0 ≤ n
  · rw [if_neg (by omega), if_pos h0, u64_wrap, u64_wrap]
    congr 1
    omega
  · rw [if_pos (by omega), if_neg h0, u64_wrap, u64_wrap, u64_wrap]
    congr 1
    unfold wrap64
    omega
end Go.Proofs.Ythkpnnbjcendcaa.Pure
end
section
/- Points: whether they rise, and their marks. -/
set_option linter.unusedVariables false
open Go.RowKit Go.Proofs.Ythkpnnbjcendcaa.X Go.Proofs.Ythkpnnbjcendcaa.Pl Go.Proofs.YthkpnnbjcendcaaW.PrintWords Go.Proofs.YthkpnnbjcendcaaW.PrintLast Go.Proofs.YthkpnnbjcendcaaW.PrintMore
namespace Go.Proofs.Ythkpnnbjcendcaa.Pure
/-- Do they rise? -/
def rightB (l : List S52) : Bool := decide (∀ i : Nat, i < l.length → 0 < i → (rd_T52 l ((i - 1 : Nat) : Int)).f0 < (rd_T52 l (i : Int)).f0)
theorem right_from (l : List S52) (hl : l.length < 4611686018427387904) (d : Nat) : ∀ j : Nat, l.length - j = d → j ≤ l.length → (∀ i : Nat, i < j → 0 < i → (rd_T52 l ((i - 1 : Nat) : Int)).f0 < (rd_T52 l (i : Int)).f0) →
    Ev (fun k => steps_Right.l0 k l (l.length : Int) (j : Int)) (rightB l) := by
  induction d with
  | zero =>
    intro j hd hj h
    refine ev_succ (fun k => by rw [steps_Right.l0]) (ev_neg (by omega) (ev_eq (Ev.now _) ?_))
    unfold rightB
    rw [eq_comm, decide_eq_true_iff]
    intro i hi
    exact h i (by omega)
  | succ d ih =>
    intro j hd hj h
    have hnx : wrap64 ((j : Int) + 1) = ((j + 1 : Nat) : Int) := by rw [w64 (by omega) (by omega)]; simp
    refine ev_succ (fun k => by rw [steps_Right.l0]) (ev_pos (by omega) ?_)
    rw [hnx]
    by_cases h0 : (j : Int) > 0
    · have hpv : wrap64 ((j : Int) - 1) = ((j - 1 : Nat) : Int) := by rw [w64 (by omega) (by omega)]; omega
      rw [hpv]
      refine ev_pos h0 (ev_pos (by omega) (ev_pos (by omega) (ev_pos (by omega) (ev_pos (by omega) ?_))))
      by_cases hc : (rd_T52 l ((j - 1 : Nat) : Int)).f0 ≥ (rd_T52 l (j : Int)).f0
      · refine ev_pos hc (ev_eq (Ev.now _) ?_)
        unfold rightB
        rw [eq_comm, decide_eq_false_iff_not]
        intro hall
        have := hall j (by omega) (by omega)
        omega
      · refine ev_neg hc (ih (j + 1) (by omega) (by omega) ?_)
        intro i hi hi0
        by_cases hij : i = j
        · subst hij; omega
        · exact h i (by omega) hi0
    · refine ev_neg h0 (ih (j + 1) (by omega) (by omega) ?_)
      intro i hi hi0
      omega
theorem right_ev (l : List S52) (hl : l.length < 4611686018427387904) : Ev (fun k => steps_Right.f k l) (rightB l) := by
  unfold steps_Right.f
  exact right_from l hl l.length 0 (by omega) (by omega) (fun i hi => absurd hi (by omega))
theorem ref_right_from (l : List S52) (hl : l.length < 4611686018427387904) (d : Nat) : ∀ j : Nat, l.length - j = d → 1 ≤ j → (∀ i : Nat, i < j → i < l.length → 0 < i → (rd_T52 l ((i - 1 : Nat) : Int)).f0 < (rd_T52 l (i : Int)).f0) →
    Ev (fun k => marigraphref04_Right.l0 k l (j : Int)) (rightB l) := by
  induction d with
  | zero =>
    intro j hd hj h
    refine ev_succ (fun k => by rw [marigraphref04_Right.l0]) (ev_neg (by omega) (ev_eq (Ev.now _) ?_))
    unfold rightB
    rw [eq_comm, decide_eq_true_iff]
    intro i hi
    exact h i (by omega) hi
  | succ d ih =>
    intro j hd hj h
    have hnx : wrap64 ((j : Int) + 1) = ((j + 1 : Nat) : Int) := by rw [w64 (by omega) (by omega)]; simp
    have hpv : wrap64 ((j : Int) - 1) = ((j - 1 : Nat) : Int) := by rw [w64 (by omega) (by omega)]; omega
    refine ev_succ (fun k => by rw [marigraphref04_Right.l0]) (ev_pos (by omega) ?_)
    rw [hnx, hpv]
    refine ev_pos (by omega) (ev_pos (by omega) (ev_pos (by omega) ?_))
    by_cases hc : (rd_T52 l (j : Int)).f0 ≤ (rd_T52 l ((j - 1 : Nat) : Int)).f0
    · refine ev_pos hc (ev_eq (Ev.now _) ?_)
      unfold rightB
      rw [eq_comm, decide_eq_false_iff_not]
      intro hall
      have := hall j (by omega) (by omega)
      omega
    · refine ev_neg hc (ih (j + 1) (by omega) (by omega) ?_)
      intro i hi hil hi0
      by_cases hij : i = j
      · subst hij; omega
      · exact h i (by omega) hil hi0
theorem ref_right_ev (l : List S52) (hl : l.length < 4611686018427387904) : Ev (fun k => marigraphref04_Right.f k l) (rightB l) := by
  unfold marigraphref04_Right.f
  exact ref_right_from l hl (l.length - 1) 1 rfl (by omega) (fun i hi _ h0 => by omega)
/-- The bits of points, from pairs on. -/
def marksP (a b c d : Int) (l : List S52) : List Bool := marks (secs a b (l.map (·.f0))) (secs c d (l.map (·.f1)))
theorem marksP_cons (a b c d : Int) (p : S52) (l : List S52) :
    marksP a b c d (p :: l) = markB (wrap64 (wrap64 (p.f0 - a) - b)) ++ markB (wrap64 (wrap64 (p.f1 - c) - d)) ++ marksP p.f0 (wrap64 (p.f0 - a)) p.f1 (wrap64 (p.f1 - c)) l := rfl
theorem marksP_nil (a b c d : Int) : marksP a b c d [] = [] := rfl
theorem marksP_length (l : List S52) : ∀ a b c d, (marksP a b c d l).length ≤ 136 * l.length := by
  induction l with
  | nil => intro a b c d; simp [marksP_nil]
  | cons p l ih =>
    intro a b c d
    rw [marksP_cons, List.length_append, List.length_append]
    have h1 := markB_length (wrap64 (wrap64 (p.f0 - a) - b))
    have h2 := markB_length (wrap64 (wrap64 (p.f1 - c) - d))
    have h3 := ih p.f0 (wrap64 (p.f0 - a)) p.f1 (wrap64 (p.f1 - c))
    simp only [List.length_cons]
    omega
/-- What points come to: their bytes and an error. -/
def putB (l : List S52) : List Int := varint l.length ++ pack (marksP 0 0 0 0 l)
def putR (l : List S52) : List Int × Int := if l.length > 1024 then ([], 3) else if rightB l = false then ([], 1) else (putB l, 0)
def fitP (l : List S52) : Prop := ∀ y ∈ l, fits64 y.f0 ∧ fits64 y.f1
theorem rd52_mem {l : List S52} {i : Nat} (h : i < l.length) : rd_T52 l (i : Int) ∈ l := by
  unfold rd_T52
  rw [Int.toNat_natCast, getD_lt _ _ _ h]
  exact List.getElem_mem h
theorem drop52 {l : List S52} {i : Nat} (h : i < l.length) : l.drop i = rd_T52 l (i : Int) :: l.drop (i + 1) := by
  rw [List.drop_eq_getElem_cons h]
  unfold rd_T52
  rw [Int.toNat_natCast, getD_lt _ _ _ h]
end Go.Proofs.Ythkpnnbjcendcaa.Pure
end
section
/- Points with even steps: what Put makes of them. -/
set_option linter.unusedVariables false
set_option linter.unusedSimpArgs false
open Go.RowKit Go.Proofs.Ythkpnnbjcendcaa.X Go.Proofs.Ythkpnnbjcendcaa.Pl Go.Proofs.YthkpnnbjcendcaaW.PrintWords Go.Proofs.YthkpnnbjcendcaaW.PrintLast Go.Proofs.YthkpnnbjcendcaaW.PrintMore
namespace Go.Proofs.Ythkpnnbjcendcaa.Pure
end Go.Proofs.Ythkpnnbjcendcaa.Pure
end
section
/- A pair's next and back, Seconds and Firsts, walked. -/
set_option linter.unusedVariables false
set_option linter.unusedSimpArgs false
open Go.RowKit Go.Proofs.Ythkpnnbjcendcaa.X Go.Proofs.Ythkpnnbjcendcaa.Pl Go.Proofs.Ythkpnnbjcendcaa.Sp Go.Proofs.Ythkpnnbjcendcaa.Pure Go.Proofs.YthkpnnbjcendcaaW.PrintWords Go.Proofs.YthkpnnbjcendcaaW.PrintLast Go.Proofs.YthkpnnbjcendcaaW.PrintMore
namespace Go.Proofs.Ythkpnnbjcendcaa.Sc
/-- A pair in memory. -/
abbrev pairR (g : Nat) (a b : Int) : Res := box g #[.int .i64 a, .int .i64 b] 87
set_option maxRecDepth 100000 in
theorem next_calls (g : Nat) (a b n : Int) (w0 w : World) (hB : Below w0.heap.size w0 w) (hO : Own w0.heap.size w (pairR g a b)) :
    Calls Try.prog 64 #[.pointer (some ⟨g, 0, none⟩), .int .i64 n] w fun e w' => e = .returned (.int .i64 (wrap64 (wrap64 (n - a) - b))) ∧ Turned w0 w w' (fun k => k = g) (fun _ => pairR g n (wrap64 (n - a))) := by
  have HB := Aside0.mk hB
  have HS := Aside0.mk (Sep.start hO)
  have hc0 := Sep.c20 HS.out
  have hc1 := Sep.c21 HS.out
  have hf0 := Sep.free HS.out 0
  have hf1 := Sep.free HS.out 1
  clear hB hO
  go_enter Try.func64, Try.ntmps64
  go_wp2
  go_ret
  exact ⟨rfl, Turned.of_sep (mk := fun _ => pairR g n (wrap64 (n - a))) (F' := fun _ => True) ((HS.out.s20 _).s21 _) HB.out (below_set (below_set HB.out HS.out.ge) HS.out.ge)⟩
end Go.Proofs.Ythkpnnbjcendcaa.Sc
end
section
/- A number's mark laid behind bits, walked. -/
set_option linter.unusedVariables false
set_option linter.unusedSimpArgs false
open Go.RowKit Go.Proofs.Ythkpnnbjcendcaa.X Go.Proofs.Ythkpnnbjcendcaa.Pl Go.Proofs.Ythkpnnbjcendcaa.Sp Go.Proofs.Ythkpnnbjcendcaa.Pure Go.Proofs.YthkpnnbjcendcaaW.PrintWords Go.Proofs.YthkpnnbjcendcaaW.PrintLast Go.Proofs.YthkpnnbjcendcaaW.PrintMore
namespace Go.Proofs.Ythkpnnbjcendcaa.Sc
theorem fold_calls (n : Int) (w : World) (h : fits64 n) : Calls Try.prog 96 #[.int .i64 n] w fun e w' => e = .returned (.int .u64 (foldN n : Int)) ∧ Below w.heap.size w w' := by
  refine (octs_Fold.calls n _ w (fold_f h)).mono ?_
  rintro e w' ⟨rfl, hd⟩
  exact ⟨rfl, hd.below⟩
theorem putC_ok {m : Nat} {n : Nat} {w : Nat} (hw : w ≤ 64) (hn : n < 2 ^ w) (hm : m + w ≤ 262144) : putC m (n : Int) (w : Int) = 0 := by
  unfold putC
  rw [if_neg (by omega), if_neg, if_neg (by omega)]
  rw [Int.toNat_natCast]
  simp only [Classical.not_not]
  exact_mod_cast hn
theorem putL_ok {L : List Bool} {n : Nat} {w : Nat} (hw : w ≤ 64) (hn : n < 2 ^ w) (hm : L.length + w ≤ 262144) : putL L (n : Int) (w : Int) = L ++ nb n w := by
  unfold putL
  rw [if_pos (putC_ok hw hn hm), Int.toNat_natCast, Int.toNat_natCast]
theorem wid0 (w : World) : (Instr.index 120 (.agg #[.int .i64 0, .int .i64 7, .int .i64 14, .int .i64 32, .int .i64 64]) (.int .i64 0)).run Try.prog w = .ok (.int .i64 0) w := by kernel_rfl
theorem wid1 (w : World) : (Instr.index 120 (.agg #[.int .i64 0, .int .i64 7, .int .i64 14, .int .i64 32, .int .i64 64]) (.int .i64 1)).run Try.prog w = .ok (.int .i64 7) w := by kernel_rfl
theorem wid2 (w : World) : (Instr.index 120 (.agg #[.int .i64 0, .int .i64 7, .int .i64 14, .int .i64 32, .int .i64 64]) (.int .i64 2)).run Try.prog w = .ok (.int .i64 14) w := by kernel_rfl
theorem wid3 (w : World) : (Instr.index 120 (.agg #[.int .i64 0, .int .i64 7, .int .i64 14, .int .i64 32, .int .i64 64]) (.int .i64 3)).run Try.prog w = .ok (.int .i64 32) w := by kernel_rfl
theorem wid4 (w : World) : (Instr.index 120 (.agg #[.int .i64 0, .int .i64 7, .int .i64 14, .int .i64 32, .int .i64 64]) (.int .i64 4)).run Try.prog w = .ok (.int .i64 64) w := by kernel_rfl
/-- What the widths ahead have told. -/
def lowU : Nat → Nat → Prop
  | 0, _ => True
  | 1, u => 0 < u
  | 2, u => 128 ≤ u
  | 3, u => 16384 ≤ u
  | _, u => 4294967296 ≤ u
set_option maxHeartbeats 8000000 in
set_option maxRecDepth 100000 in
theorem mark_calls (g : Nat) (F : Nat → Prop) (L : List Bool) (n : Int) (w0 w : World) (hB : Below w0.heap.size w0 w) (hO : Own w0.heap.size w (bitsR w0.heap.size g L F)) (hn : fits64 n) (hl : L.length + 68 ≤ 262144) :
    Calls Try.prog 63 #[.pointer (some ⟨g, 0, none⟩), .int .i64 n] w fun e w' => e = .returned (.tuple #[]) ∧ Turned w0 w w' F (bitsR w0.heap.size g (L ++ markB n)) := by
  have HB0 := Aside0.mk hB
  have HB := Aside0.mk hB
  have HS := Aside0.mk (Sep.start hO)
  have HN := Aside0.mk hn
  have HL := Aside0.mk hl
  have i0 := wid0
  have i1 := wid1
  have i2 := wid2
  have i3 := wid3
  have i4 := wid4
  obtain ⟨u, hu⟩ : ∃ u, u = foldN n := ⟨_, rfl⟩
  have HU := Aside0.mk hu
  have HU64 := Aside0.mk (show u < 2 ^ 64 from hu ▸ foldN_lt hn)
  clear hB hO hn hl hu
  go_enter Try.func63, Try.ntmps63
  go_wp2_with (first
    | (go_at_call 96; (with_reducible refine (fold_calls n _ HN.out).mono ?_); rintro e w1 ⟨rfl, hb⟩; rw [← HU.out]; have n0_ := Aside0.mk (below_step (by repeat (first | (with_reducible first | exact HB.out | apply below_alloc | apply pw_below_drewN | apply below_drew1) | exact HB.out)) hb); have n1_ := Aside0.mk (Sep.below (by repeat (first | (with_reducible first | exact HS.out | apply sep_alloc | apply sep_drewN | apply sep_drew) | exact HS.out)) hb); clear HB HS; have HB := n0_; have HS := n1_; clear n0_ n1_ hb)
    | (go_at_call 97; (with_reducible refine (steps_widths.calls 0 7 14 32 64 _ rfl).mono ?_); rintro e w2 ⟨rfl, hb⟩; have n0_ := Aside0.mk (below_step (by repeat (first | (with_reducible first | exact HB.out | apply below_alloc | apply pw_below_drewN | apply below_drew1) | exact HB.out)) hb); have n1_ := Aside0.mk (Sep.below (by repeat (first | (with_reducible first | exact HS.out | apply sep_alloc | apply sep_drewN | apply sep_drew) | exact HS.out)) hb); clear HB HS; have HB := n0_; have HS := n1_; clear n0_ n1_ hb))
  go_loopg [10] 5 (fun kq v10 w' => ∃ (i : Nat), v10 = .int .i64 (i : Int) ∧ Aside0 (kq + i = 5 ∧ i ≤ 4 ∧ lowU i u) ∧ Aside0 (Sep w0.heap.size w' [bitsR w0.heap.size g L F, frameR w0.heap.size w (bitsR w0.heap.size g L F).foot]) ∧ Aside0 (Below w0.heap.size w0 w'))
  case atStart => exact ⟨0, rfl, ⟨by omega, by omega, trivial⟩, HS, HB⟩
  case round =>
    clear HS HB
    obtain ⟨i, rfl, HI, HS, HB⟩ := hrel
    obtain ⟨k1, rfl⟩ : ∃ m, gk = m + 1 := ⟨gk - 1, by have := HI.out; omega⟩
    have hi := HI.out.2.1
    rcases (by omega : i = 0 ∨ i = 1 ∨ i = 2 ∨ i = 3 ∨ i = 4) with rfl | rfl | rfl | rfl | rfl
    · clear hi
      by_cases hz0 : u = 0
      · have hz := Aside0.mk hz0
        have hb1 : ((u : Int) != 0) = false := by rw [hz0]; rfl
        have hb2 : ((u : Int) / 1 != 0) = false := by rw [hz0]; rfl
        clear hz0
        have hp1 : putL L 0 1 = L ++ nb 0 1 := putL_ok (n := 0) (w := 1) (by omega) (by decide) (by have := HL.out; omega)
        have hp2 : putL (L ++ nb 0 1) (u : Int) 0 = L ++ markB n := by
          have hu0 : u = 0 := hz.out
          have e : putL (L ++ nb 0 1) (u : Int) 0 = (L ++ nb 0 1) ++ nb u 0 := putL_ok (n := u) (w := 0) (by omega) (by omega) (by rw [List.length_append, nb_length]; have := HL.out; omega)
          rw [e]
          unfold markB
          rw [← HU.out, hu0]
          simp [nb]
        have HP1 := Aside0.mk hp1
        have HP2 := Aside0.mk hp2
        clear hp1 hp2
        go_wp2_with (first
          | (go_at_call 22; (with_reducible refine (put_calls g _ _ _ _ w0 _ HB.out HS.out.own ?ha_ ?hb_).mono ?_); (case ha_ => have := HU64.out; constructor <;> omega); (case hb_ => constructor <;> omega); rintro e w6 ⟨rfl, ht⟩; obtain ⟨F_, hs_⟩ := Turned.sep ht (HS.out) rfl; have n0_ := Aside0.mk (Turned.below ht); clear HB HS ht; have HB := n0_; have HS := Aside0.mk hs_; clear n0_ hs_; (first | rw [HP1.out] at HS | rw [HP2.out] at HS)))
        (first | go_end0 | ((try simp only [Exit.inBlock, Exit.then]); refine bodyPost_ret (results_none rfl _ _ _) rfl ?_))
        exact ⟨rfl, Turned.of_sep HS.out HB0.out HB.out⟩
      · have hz := Aside0.mk hz0
        have hb1 : ((u : Int) != 0) = true := by rw [bne_iff_ne]; omega
        have hb2 : ((u : Int) / 1 != 0) = true := by rw [bne_iff_ne]; omega
        clear hz0
        go_wp2
        go_roundg k1
        case measure => omega
        case rel => exact ⟨1, (by first | rfl | simp), ⟨by have := HI.out; omega, by omega, (show 0 < u from by have := hz.out; omega)⟩, HS, HB⟩
    · clear hi
      by_cases hz0 : u < 128
      · have hz := Aside0.mk hz0
        have hb1 : ((u : Int) / 128 != 0) = false := by rw [bne_eq_false_iff_eq]; omega
        clear hz0
        have hp1 : putL L 2 2 = L ++ nb 2 2 := putL_ok (n := 2) (w := 2) (by omega) (by decide) (by have := HL.out; omega)
        have hp2 : putL (L ++ nb 2 2) (u : Int) 7 = L ++ markB n := by
          have e : putL (L ++ nb 2 2) (u : Int) 7 = (L ++ nb 2 2) ++ nb u 7 := putL_ok (n := u) (w := 7) (by omega) (by have := hz.out; omega) (by rw [List.length_append, nb_length]; have := HL.out; omega)
          have hlow : 0 < u := HI.out.2.2
          rw [e, List.append_assoc]
          unfold markB
          dsimp only
          rw [← HU.out, if_neg (by omega), if_pos (by have := hz.out; omega)]
        have HP1 := Aside0.mk hp1
        have HP2 := Aside0.mk hp2
        clear hp1 hp2
        go_wp2_with (first
          | (go_at_call 22; (with_reducible refine (put_calls g _ _ _ _ w0 _ HB.out HS.out.own ?ha_ ?hb_).mono ?_); (case ha_ => have := HU64.out; constructor <;> omega); (case hb_ => constructor <;> omega); rintro e w6 ⟨rfl, ht⟩; obtain ⟨F_, hs_⟩ := Turned.sep ht (HS.out) rfl; have n0_ := Aside0.mk (Turned.below ht); clear HB HS ht; have HB := n0_; have HS := Aside0.mk hs_; clear n0_ hs_; (first | rw [HP1.out] at HS | rw [HP2.out] at HS)))
        (first | go_end0 | ((try simp only [Exit.inBlock, Exit.then]); refine bodyPost_ret (results_none rfl _ _ _) rfl ?_))
        exact ⟨rfl, Turned.of_sep HS.out HB0.out HB.out⟩
      · have hz := Aside0.mk hz0
        have hb1 : ((u : Int) / 128 != 0) = true := by rw [bne_iff_ne]; omega
        clear hz0
        go_wp2
        go_roundg k1
        case measure => omega
        case rel => exact ⟨2, (by first | rfl | simp), ⟨by have := HI.out; omega, by omega, (show 128 ≤ u from by have := hz.out; omega)⟩, HS, HB⟩
    · clear hi
      by_cases hz0 : u < 16384
      · have hz := Aside0.mk hz0
        have hb1 : ((u : Int) / 16384 != 0) = false := by rw [bne_eq_false_iff_eq]; omega
        clear hz0
        have hp1 : putL L 6 3 = L ++ nb 6 3 := putL_ok (n := 6) (w := 3) (by omega) (by decide) (by have := HL.out; omega)
        have hp2 : putL (L ++ nb 6 3) (u : Int) 14 = L ++ markB n := by
          have e : putL (L ++ nb 6 3) (u : Int) 14 = (L ++ nb 6 3) ++ nb u 14 := putL_ok (n := u) (w := 14) (by omega) (by have := hz.out; omega) (by rw [List.length_append, nb_length]; have := HL.out; omega)
          have hlow : 128 ≤ u := HI.out.2.2
          rw [e, List.append_assoc]
          unfold markB
          dsimp only
          rw [← HU.out, if_neg (by omega), if_neg (by omega), if_pos (by have := hz.out; omega)]
        have HP1 := Aside0.mk hp1
        have HP2 := Aside0.mk hp2
        clear hp1 hp2
        go_wp2_with (first
          | (go_at_call 22; (with_reducible refine (put_calls g _ _ _ _ w0 _ HB.out HS.out.own ?ha_ ?hb_).mono ?_); (case ha_ => have := HU64.out; constructor <;> omega); (case hb_ => constructor <;> omega); rintro e w6 ⟨rfl, ht⟩; obtain ⟨F_, hs_⟩ := Turned.sep ht (HS.out) rfl; have n0_ := Aside0.mk (Turned.below ht); clear HB HS ht; have HB := n0_; have HS := Aside0.mk hs_; clear n0_ hs_; (first | rw [HP1.out] at HS | rw [HP2.out] at HS)))
        (first | go_end0 | ((try simp only [Exit.inBlock, Exit.then]); refine bodyPost_ret (results_none rfl _ _ _) rfl ?_))
        exact ⟨rfl, Turned.of_sep HS.out HB0.out HB.out⟩
      · have hz := Aside0.mk hz0
        have hb1 : ((u : Int) / 16384 != 0) = true := by rw [bne_iff_ne]; omega
        clear hz0
        go_wp2
        go_roundg k1
        case measure => omega
        case rel => exact ⟨3, (by first | rfl | simp), ⟨by have := HI.out; omega, by omega, (show 16384 ≤ u from by have := hz.out; omega)⟩, HS, HB⟩
    · clear hi
      by_cases hz0 : u < 4294967296
      · have hz := Aside0.mk hz0
        have hb1 : ((u : Int) / 4294967296 != 0) = false := by rw [bne_eq_false_iff_eq]; omega
        clear hz0
        have hp1 : putL L 14 4 = L ++ nb 14 4 := putL_ok (n := 14) (w := 4) (by omega) (by decide) (by have := HL.out; omega)
        have hp2 : putL (L ++ nb 14 4) (u : Int) 32 = L ++ markB n := by
          have e : putL (L ++ nb 14 4) (u : Int) 32 = (L ++ nb 14 4) ++ nb u 32 := putL_ok (n := u) (w := 32) (by omega) (by have := hz.out; omega) (by rw [List.length_append, nb_length]; have := HL.out; omega)
          have hlow : 16384 ≤ u := HI.out.2.2
          rw [e, List.append_assoc]
          unfold markB
          dsimp only
          rw [← HU.out, if_neg (by omega), if_neg (by omega), if_neg (by omega), if_pos (by have := hz.out; omega)]
        have HP1 := Aside0.mk hp1
        have HP2 := Aside0.mk hp2
        clear hp1 hp2
        go_wp2_with (first
          | (go_at_call 22; (with_reducible refine (put_calls g _ _ _ _ w0 _ HB.out HS.out.own ?ha_ ?hb_).mono ?_); (case ha_ => have := HU64.out; constructor <;> omega); (case hb_ => constructor <;> omega); rintro e w6 ⟨rfl, ht⟩; obtain ⟨F_, hs_⟩ := Turned.sep ht (HS.out) rfl; have n0_ := Aside0.mk (Turned.below ht); clear HB HS ht; have HB := n0_; have HS := Aside0.mk hs_; clear n0_ hs_; (first | rw [HP1.out] at HS | rw [HP2.out] at HS)))
        (first | go_end0 | ((try simp only [Exit.inBlock, Exit.then]); refine bodyPost_ret (results_none rfl _ _ _) rfl ?_))
        exact ⟨rfl, Turned.of_sep HS.out HB0.out HB.out⟩
      · have hz := Aside0.mk hz0
        have hb1 : ((u : Int) / 4294967296 != 0) = true := by rw [bne_iff_ne]; omega
        clear hz0
        go_wp2
        go_roundg k1
        case measure => omega
        case rel => exact ⟨4, (by first | rfl | simp), ⟨by have := HI.out; omega, by omega, (show 4294967296 ≤ u from by have := hz.out; omega)⟩, HS, HB⟩
    · have hp1 : putL L 15 4 = L ++ nb 15 4 := putL_ok (n := 15) (w := 4) (by omega) (by decide) (by have := HL.out; omega)
      have hp2 : putL (L ++ nb 15 4) (u : Int) 64 = L ++ markB n := by
        have e : putL (L ++ nb 15 4) (u : Int) 64 = (L ++ nb 15 4) ++ nb u 64 := putL_ok (n := u) (w := 64) (by omega) (by exact HU64.out) (by rw [List.length_append, nb_length]; have := HL.out; omega)
        have hlow : 4294967296 ≤ u := HI.out.2.2
        rw [e, List.append_assoc]
        unfold markB
        dsimp only
        rw [← HU.out, if_neg (by omega), if_neg (by omega), if_neg (by omega), if_neg (by omega)]
      clear hi
      have HP1 := Aside0.mk hp1
      have HP2 := Aside0.mk hp2
      clear hp1 hp2
      go_wp2_with (first
        | (go_at_call 22; (with_reducible refine (put_calls g _ _ _ _ w0 _ HB.out HS.out.own ?ha_ ?hb_).mono ?_); (case ha_ => have := HU64.out; constructor <;> omega); (case hb_ => constructor <;> omega); rintro e w6 ⟨rfl, ht⟩; obtain ⟨F_, hs_⟩ := Turned.sep ht (HS.out) rfl; have n0_ := Aside0.mk (Turned.below ht); clear HB HS ht; have HB := n0_; have HS := Aside0.mk hs_; clear n0_ hs_; (first | rw [HP1.out] at HS | rw [HP2.out] at HS)))
      (first | go_end0 | ((try simp only [Exit.inBlock, Exit.then]); refine bodyPost_ret (results_none rfl _ _ _) rfl ?_))
      exact ⟨rfl, Turned.of_sep HS.out HB0.out HB.out⟩
end Go.Proofs.Ythkpnnbjcendcaa.Sc
end
section
/- octs.Put, walked: bytes, and a number behind them. -/
set_option linter.unusedVariables false
set_option linter.unusedSimpArgs false
open Go.RowKit Go.Proofs.Ythkpnnbjcendcaa.X Go.Proofs.Ythkpnnbjcendcaa.Pl Go.Proofs.Ythkpnnbjcendcaa.Sp Go.Proofs.Ythkpnnbjcendcaa.Pure Go.Proofs.YthkpnnbjcendcaaW.PrintWords Go.Proofs.YthkpnnbjcendcaaW.PrintLast Go.Proofs.YthkpnnbjcendcaaW.PrintMore
namespace Go.Proofs.Ythkpnnbjcendcaa.Pure
theorem or_all : ∀ x, x < 256 → x ||| 128 = x % 128 + 128 := by decide +kernel
theorem or_128 (n : Nat) : Go.bits .or .u8 ((n : Int) % 256) 128 = ((n % 128 + 128 : Nat) : Int) := by
  have h := (bits_nat .u8 8 (by decide) wraps_u8 (n % 256) 128 (Nat.mod_lt _ (by decide)) (by decide)).2
  rw [show (n : Int) % 256 = ((n % 256 : Nat) : Int) by omega]
  rw [show (128 : Int) = ((128 : Nat) : Int) from rfl, h, or_all _ (Nat.mod_lt _ (by decide))]
  omega
theorem varint_small {n : Nat} (h : n < 128) : varint n = [(n : Int)] := by rw [varint, dif_pos h]
theorem varint_big {n : Nat} (h : ¬ n < 128) : varint n = ((n % 128 + 128 : Nat) : Int) :: varint (n / 128) := by rw [varint, dif_neg h]
end Go.Proofs.Ythkpnnbjcendcaa.Pure
namespace Go.Proofs.Ythkpnnbjcendcaa.Sc
set_option maxHeartbeats 8000000 in
set_option maxRecDepth 100000 in
theorem oput_calls (A0 : Option Addr) (c0 : Nat) (b : List Int) (n : Nat) (w : World) (hr0 : Kd.C (Kd.int .u8) w A0 b.length b) (hl : b.length ≤ 100000000) (hn : n < 2 ^ 64) :
    Calls Try.prog 65 #[.slice A0 b.length c0, .int .u64 (n : Int)] w fun e w' => ∃ v, e = .returned v ∧ Kd.R (Kd.int .u8) 5 w' w.heap.size (fun _ => True) v (b ++ varint n) ∧ Below w.heap.size w w' := by
  have HB := Aside0.mk (Below.refl w.heap.size w)
  have HS := Aside0.mk (Sep.nil w.heap.size w)
  have HR := Aside0.mk hr0
  have HL := Aside0.mk hl
  have HN := Aside0.mk hn
  obtain ⟨m, hm⟩ : ∃ m : Nat, m = b.length + 10 := ⟨_, rfl⟩
  have hw : wrap64 ((b.length : Int) + 10) = (m : Int) := by rw [w64 (by omega) (by omega)]; omega
  have HM := Aside0.mk hm
  clear hr0 hl hn hm
  go_enter Try.func65, Try.ntmps65
  go_wp2_with (first
    | ((with_reducible refine gate_dst (N := 9) rfl ?_); (try (refine gate_guard (by rfl) ?_; dsimp only)); (refine wp_makecap (Kd.int .u8) (w0 := w) rfl (N := 9) rfl 24 5 (.const (.int .i64 0)) (.tmp 8) rfl (m) Try.underlying24 (.int .u8 0) 1 info5 rfl (by decide) (by omega) (by have := HM.out; have := HL.out; omega) (by repeat (first | (with_reducible first | exact HS.out | apply sep_alloc | apply sep_drewN | apply sep_drew) | exact HS.out)) (by repeat (first | (with_reducible first | exact HB.out | apply below_alloc | apply pw_below_drewN | apply below_drew1) | exact HB.out)) ?hx_ ?hy_ ?_; (case hx_ => first | rfl | (go_simp; done)); (case hy_ => first | rfl | (go_simp; done))); intro A_ c_ w_ F_ hs_ hb_; clear HB HS; have HB := Aside0.mk hb_; have HS := Aside0.mk hs_; clear hs_ hb_; (skip))
    | ((with_reducible refine gate_builtin (b := .append) (xs := #[.tmp 9, .tmp 10]) rfl ?_); (refine wp_append_row (Kd.int .u8) (w0 := w) rfl (.tmp 9) (.tmp 10) 24 5 (.int .u8 0) 1 rfl Try.underlying24 info5 rfl (by decide) (by omega) b _ _ _ HS.out (Kd.C_below HR.out HB.out) (fun _ _ h => h) (by repeat (first | (with_reducible first | exact HB.out | apply below_alloc | apply pw_below_drewN | apply below_drew1) | exact HB.out)) (by have := HL.out; simp; omega) rfl rfl ?_); (intro v_ w_ F_ hs_ hb_); (obtain ⟨O0, hy_⟩ : ∃ y_, y_ = ([] : List Int) ++ b := ⟨_, rfl⟩; rw [← hy_] at hs_; have HO0 := Aside0.mk hy_; clear hy_ HB HS; have HB := Aside0.mk hb_; have HS := Aside0.mk hs_; clear hs_ hb_; obtain ⟨A_, c_, e_⟩ := Kd.R_slice (Sep.R HS.out); subst e_); (skip)))
  go_loopg [1, 5] 10 (fun kq v1 v5 w' => ∃ (x : Nat) (O : List Int) (F : Nat → Prop), v1 = .int .u64 (x : Int) ∧ Aside0 (x < 128 ^ kq ∧ O.length + kq = b.length + 10 ∧ O ++ varint x = b ++ varint n) ∧ Aside0 (Sep w.heap.size w' [row F (Kd.int .u8) 5 w.heap.size v5 O]) ∧ Aside0 (Below w.heap.size w w'))
  case atStart => exact ⟨n, O0, _, rfl, ⟨Nat.lt_of_lt_of_le HN.out (by decide), by rw [HO0.out]; simp, by rw [HO0.out]; simp⟩, HS, HB⟩
  case round =>
    clear HS HB
    obtain ⟨x, O, F, rfl, HI, HS, HB⟩ := hrel
    obtain ⟨A_, c_, e_⟩ := Kd.R_slice (Sep.R HS.out)
    subst e_
    have HOL := Aside0.mk (show O.length + 1 ≤ 140737488355328 by have := HI.out; have := HL.out; omega)
    by_cases hx : x < 128
    · have hb1 : decide (128 ≤ (x : Int)) = false := decide_eq_false (by omega)
      have hb2 : (x : Int) % 256 = (x : Int) := by omega
      have HX := Aside0.mk hx
      clear hx
      go_wp2_with (first
        | ((with_reducible refine gate_builtin (b := .append) (xs := #[.tmp 22, .tmp 25]) rfl ?_); (at_builtin); (refine wp_append (Kd.int .u8) (w0 := w) rfl (.tmp 22) (.tmp 25) 24 5 (.int .u8 0) 1 rfl Try.underlying24 info5 rfl (by decide) (by omega) ((x : Int)) [.int .u8 (x : Int)] HS.out rfl rfl rfl (by repeat (first | (with_reducible first | exact HB.out | apply below_alloc | apply pw_below_drewN | apply below_drew1) | exact HB.out)) (by have := HOL.out; omega) ?_); (intro v_ w_ F_ hs_ hb_); (obtain ⟨O1, hy_⟩ : ∃ y_, y_ = O ++ [(x : Int)] := ⟨_, rfl⟩; rw [← hy_] at hs_; have HO1 := Aside0.mk hy_; clear hy_ HB HS; have HB := Aside0.mk hb_; have HS := Aside0.mk hs_; clear hs_ hb_; obtain ⟨A_, c_, e_⟩ := Kd.R_slice (Sep.R HS.out); subst e_); (skip)))
      go_ret
      refine ⟨_, rfl, ?_, HB.out⟩
      have := HI.out.2.2
      rw [varint_small HX.out, ← HO1.out] at this
      rw [← this]
      exact Kd.R_mono (Sep.R HS.out) (fun _ _ => trivial)
    · have hk : gk ≠ 0 := by rintro rfl; have := HI.out.1; simp at this; omega
      obtain ⟨k1, rfl⟩ : ∃ m, gk = m + 1 := ⟨gk - 1, by omega⟩
      have hb1 : decide (128 ≤ (x : Int)) = true := decide_eq_true (by omega)
      have hor := or_128 x
      obtain ⟨y, hy⟩ : ∃ y : Int, y = ((x % 128 + 128 : Nat) : Int) := ⟨_, rfl⟩
      rw [← hy] at hor
      have HY := Aside0.mk hy
      have HX := Aside0.mk hx
      clear hx hk hy
      go_wp2_with (first
        | ((with_reducible refine gate_builtin (b := .append) (xs := #[.tmp 16, .tmp 20]) rfl ?_); (at_builtin); (refine wp_append (Kd.int .u8) (w0 := w) rfl (.tmp 16) (.tmp 20) 24 5 (.int .u8 0) 1 rfl Try.underlying24 info5 rfl (by decide) (by omega) (y) [.int .u8 y] HS.out rfl rfl rfl (by repeat (first | (with_reducible first | exact HB.out | apply below_alloc | apply pw_below_drewN | apply below_drew1) | exact HB.out)) (by have := HOL.out; omega) ?_); (intro v_ w_ F_ hs_ hb_); (obtain ⟨O1, hy_⟩ : ∃ y_, y_ = O ++ [y] := ⟨_, rfl⟩; rw [← hy_] at hs_; have HO1 := Aside0.mk hy_; clear hy_ HB HS; have HB := Aside0.mk hb_; have HS := Aside0.mk hs_; clear hs_ hb_; obtain ⟨A_, c_, e_⟩ := Kd.R_slice (Sep.R HS.out); subst e_); (skip)))
      go_roundg k1
      case measure => omega
      case rel => exact ⟨x / 128, O1, _, (by first | rfl | simp), ⟨by have := HI.out.1; rw [Nat.pow_succ] at this; exact Nat.div_lt_of_lt_mul (by omega), by rw [HO1.out, List.length_append, List.length_singleton]; have := HI.out; omega, by rw [← HI.out.2.2, HO1.out, varint_big HX.out, HY.out, List.append_assoc]; rfl⟩, HS, HB⟩
theorem oput_nil (n : Nat) (w : World) (hn : n < 2 ^ 64) :
    Calls Try.prog 65 #[.slice none 0 0, .int .u64 (n : Int)] w fun e w' => ∃ v, e = .returned v ∧ Kd.R (Kd.int .u8) 5 w' w.heap.size (fun _ => True) v (varint n) ∧ Below w.heap.size w w' :=
  oput_calls none 0 [] n w (Kd.C_nil _ _) (by decide) hn
theorem varint_le (k : Nat) : ∀ n : Nat, n < 128 ^ (k + 1) → 1 ≤ (varint n).length ∧ (varint n).length ≤ k + 1 := by
  induction k with
  | zero =>
    intro n h
    rw [varint_small (by simpa using h)]
    simp
  | succ k ih =>
    intro n h
    by_cases hs : n < 128
    · rw [varint_small hs]; simp
    · rw [varint_big hs]
      have := ih (n / 128) (by rw [Nat.pow_succ] at h; exact Nat.div_lt_of_lt_mul (by omega))
      simp only [List.length_cons]
      omega
end Go.Proofs.Ythkpnnbjcendcaa.Sc
end
section
/- The reference's Seconds, Firsts and Ints. -/
set_option linter.unusedVariables false
open Go.RowKit Go.Proofs.Ythkpnnbjcendcaa.X Go.Proofs.Ythkpnnbjcendcaa.Pl Go.Proofs.YthkpnnbjcendcaaW.PrintWords Go.Proofs.YthkpnnbjcendcaaW.PrintLast Go.Proofs.YthkpnnbjcendcaaW.PrintMore
namespace Go.Proofs.Ythkpnnbjcendcaa.Pure
theorem less_f (a b : Int) : marigraphref04_less.f a b = some (wrap64 (a - b)) := by
  unfold marigraphref04_less.f
  rw [u64_wrap, u64_wrap, u64_wrap]
  congr 1
  unfold wrap64
  omega
theorem drop_rd {l : List Int} {i : Nat} (h : i < l.length) : l.drop i = rd l (i : Int) :: l.drop (i + 1) := by
  rw [List.drop_eq_getElem_cons h]
  unfold rd
  rw [Int.toNat_natCast, getD_lt _ _ _ h]
theorem ref_secs_from (l : List Int) (hl : l.length ≤ 1000000) (d : Nat) : ∀ (j : Nat) (a b : Int) (O : List Int), l.length - j = d → j ≤ l.length → O.length = j →
    Ev (fun k => marigraphref04_Seconds.l0 k l O a b (j : Int)) (O ++ secs a b (l.drop j)) := by
  induction d with
  | zero =>
    intro j a b O hd hj hO
    refine ev_succ (fun k => by rw [marigraphref04_Seconds.l0]) (ev_neg (by omega) (ev_eq (Ev.now _) ?_))
    rw [List.drop_of_length_le (by omega), show secs a b [] = [] from rfl, List.append_nil]
  | succ d ih =>
    intro j a b O hd hj hO
    have hnx : wrap64 ((j : Int) + 1) = ((j + 1 : Nat) : Int) := by rw [w64 (by omega) (by omega)]; simp
    refine ev_succ (fun k => by rw [marigraphref04_Seconds.l0]) (ev_pos (by omega) (ev_pos (by omega) ?_))
    refine ev_const (less_f _ _) (ev_const (less_f _ _) (ev_pos (by omega) ?_))
    rw [hnx]
    refine ev_eq (ih (j + 1) _ _ _ (by omega) (by omega) (by rw [List.length_append, hO]; rfl)) ?_
    rw [drop_rd (show j < l.length by omega), secs, List.append_assoc]
    rfl
theorem ref_secs_ev (l : List Int) (hl : l.length ≤ 1000000) : Ev (fun k => marigraphref04_Seconds.f k l) (secs 0 0 l) := by
  unfold marigraphref04_Seconds.f
  exact ref_secs_from l hl l.length 0 0 0 [] (by omega) (by omega) rfl
/-- What comes of numbers to all of which the same is added. -/
theorem shift_secs (l : List Int) (by_ : Int) (hl : ∀ x ∈ l, fits64 x) (hb : fits64 by_) (j : Nat) (h : j < l.length) :
    (secs 0 0 (l.map fun x => wrap64 (x + by_))).getD j 0 = if j = 0 then wrap64 ((secs 0 0 l).getD j 0 + by_) else if j = 1 then wrap64 ((secs 0 0 l).getD j 0 - by_) else (secs 0 0 l).getD j 0 := by
  have hm : ∀ i, i < l.length → (l.map fun x => wrap64 (x + by_)).getD i 0 = wrap64 (l.getD i 0 + by_) := by
    intro i hi
    rw [List.getD_eq_getElem?_getD, List.getD_eq_getElem?_getD]
    simp [hi]
  have hf : ∀ i, i < l.length → fits64 (l.getD i 0) := by
    intro i hi
    rw [getD_lt _ _ _ hi]
    exact hl _ (List.getElem_mem hi)
  unfold fits64 at hb hf
  rw [secs_get _ _ _ _ (by rw [List.length_map]; exact h), secs_get _ _ _ _ h]
  match j with
  | 0 =>
    have := hf 0 h
    rw [if_pos rfl, if_pos rfl, if_pos rfl, hm 0 h]
    unfold wrap64
    omega
  | 1 =>
    have h0 := hf 0 (by omega)
    have h1 := hf 1 h
    rw [if_neg (by omega), if_pos rfl, if_neg (by omega), if_pos rfl, if_neg (by omega), if_pos rfl, hm 1 h, hm 0 (by omega)]
    unfold wrap64
    omega
  | (j + 2) =>
    have h0 := hf j (by omega)
    have h1 := hf (j + 1) (by omega)
    have h2 := hf (j + 2) h
    rw [if_neg (by omega), if_neg (by omega), if_neg (by omega), if_neg (by omega), if_neg (by omega), if_neg (by omega), show j + 2 - 1 = j + 1 by omega, show j + 2 - 2 = j by omega, hm _ h, hm _ (by omega), hm _ (by omega)]
    unfold wrap64
    omega
end Go.Proofs.Ythkpnnbjcendcaa.Pure
end
section
/- The reference's mark, walked. -/
set_option linter.unusedVariables false
set_option linter.unusedSimpArgs false
open Go.RowKit Go.Proofs.Ythkpnnbjcendcaa.X Go.Proofs.Ythkpnnbjcendcaa.Pl Go.Proofs.Ythkpnnbjcendcaa.Sp Go.Proofs.Ythkpnnbjcendcaa.Pure Go.Proofs.YthkpnnbjcendcaaW.PrintWords Go.Proofs.YthkpnnbjcendcaaW.PrintLast Go.Proofs.YthkpnnbjcendcaaW.PrintMore
namespace Go.Proofs.Ythkpnnbjcendcaa.Sc
theorem reffold_calls (n : Int) (w : World) (h : fits64 n) : Calls Try.prog 98 #[.int .i64 n] w fun e w' => e = .returned (.int .u64 (foldN n : Int)) ∧ Below w.heap.size w w' := by
  refine (marigraphref01_Fold.calls n _ w (ref_fold_f h)).mono ?_
  rintro e w' ⟨rfl, hd⟩
  exact ⟨rfl, hd.below⟩
set_option maxHeartbeats 8000000 in
set_option maxRecDepth 100000 in
theorem refmark_calls (g : Nat) (F : Nat → Prop) (L : List Bool) (n : Int) (w0 w : World) (hB : Below w0.heap.size w0 w) (hO : Own w0.heap.size w (refR w0.heap.size g L F)) (hn : fits64 n) (hl : L.length + 68 ≤ 262144) :
    Calls Try.prog 67 #[.pointer (some ⟨g, 0, none⟩), .int .i64 n] w fun e w' => e = .returned (.tuple #[]) ∧ Turned w0 w w' F (refR w0.heap.size g (L ++ markB n)) := by
  have HB0 := Aside0.mk hB
  have HB := Aside0.mk hB
  have HS := Aside0.mk (Sep.start hO)
  have HN := Aside0.mk hn
  have HL := Aside0.mk hl
  obtain ⟨u, hu⟩ : ∃ u, u = foldN n := ⟨_, rfl⟩
  have HU := Aside0.mk hu
  have HU64 := Aside0.mk (show u < 2 ^ 64 from hu ▸ foldN_lt hn)
  clear hB hO hn hl hu
  by_cases hz0 : u < 1
  · have hb0 : ((u : Int) == 0) = true := by rw [beq_iff_eq]; omega
    have hp1 : putL L 0 1 = L ++ markB n := by
      have e : putL L 0 1 = L ++ nb 0 1 := putL_ok (n := 0) (w := 1) (by omega) (by decide) (by have := HL.out; omega)
      rw [e]
      unfold markB
      dsimp only
      rw [← HU.out, if_pos (by omega)]
      rfl
    have HP1 := Aside0.mk hp1
    clear hp1 hz0
    go_enter Try.func67, Try.ntmps67
    go_wp2_with (first
      | (go_at_call 98; (with_reducible refine (reffold_calls n _ HN.out).mono ?_); rintro e w1 ⟨rfl, hb⟩; rw [← HU.out]; have n0_ := Aside0.mk (below_step (by repeat (first | (with_reducible first | exact HB.out | apply below_alloc | apply pw_below_drewN | apply below_drew1) | exact HB.out)) hb); have n1_ := Aside0.mk (Sep.below (by repeat (first | (with_reducible first | exact HS.out | apply sep_alloc | apply sep_drewN | apply sep_drew) | exact HS.out)) hb); clear HB HS; have HB := n0_; have HS := n1_; clear n0_ n1_ hb)
      | (go_at_call 23; (with_reducible refine (refput_calls g _ _ _ _ w0 _ HB.out HS.out.own ?ha_ ?hb_ ?hc_).mono ?_); (case ha_ => have := HU64.out; constructor <;> omega); (case hb_ => constructor <;> omega); (case hc_ => (try rw [List.length_append, nb_length]); have := HL.out; omega); rintro e w6 ⟨rfl, ht⟩; obtain ⟨F_, hs_⟩ := Turned.sep ht (HS.out) rfl; have n0_ := Aside0.mk (Turned.below ht); clear HB HS ht; have HB := n0_; have HS := Aside0.mk hs_; clear n0_ hs_; (first | rw [HP1.out] at HS)))
    (first | go_end0 | ((try simp only [Exit.inBlock, Exit.then]); refine bodyPost_ret (results_none rfl _ _ _) rfl ?_))
    exact ⟨rfl, Turned.of_sep HS.out HB0.out HB.out⟩
  by_cases hz1 : u < 128
  · have hb0 : ((u : Int) == 0) = false := by rw [beq_eq_false_iff_ne]; omega
    have hb1 : decide ((u : Int) < 128) = true := decide_eq_true (by omega)
    have hp1 : putL L 2 2 = L ++ nb 2 2 := putL_ok (n := 2) (w := 2) (by omega) (by decide) (by have := HL.out; omega)
    have hp2 : putL (L ++ nb 2 2) (u : Int) 7 = L ++ markB n := by
      have e : putL (L ++ nb 2 2) (u : Int) 7 = (L ++ nb 2 2) ++ nb u 7 := putL_ok (n := u) (w := 7) (by omega) (by omega) (by rw [List.length_append, nb_length]; have := HL.out; omega)
      rw [e, List.append_assoc]
      unfold markB
      dsimp only
      rw [← HU.out, if_neg (by omega), if_pos (by omega)]
    have HP1 := Aside0.mk hp1
    have HP2 := Aside0.mk hp2
    clear hp1 hp2 hz0 hz1
    go_enter Try.func67, Try.ntmps67
    go_wp2_with (first
      | (go_at_call 98; (with_reducible refine (reffold_calls n _ HN.out).mono ?_); rintro e w1 ⟨rfl, hb⟩; rw [← HU.out]; have n0_ := Aside0.mk (below_step (by repeat (first | (with_reducible first | exact HB.out | apply below_alloc | apply pw_below_drewN | apply below_drew1) | exact HB.out)) hb); have n1_ := Aside0.mk (Sep.below (by repeat (first | (with_reducible first | exact HS.out | apply sep_alloc | apply sep_drewN | apply sep_drew) | exact HS.out)) hb); clear HB HS; have HB := n0_; have HS := n1_; clear n0_ n1_ hb)
      | (go_at_call 23; (with_reducible refine (refput_calls g _ _ _ _ w0 _ HB.out HS.out.own ?ha_ ?hb_ ?hc_).mono ?_); (case ha_ => have := HU64.out; constructor <;> omega); (case hb_ => constructor <;> omega); (case hc_ => (try rw [List.length_append, nb_length]); have := HL.out; omega); rintro e w6 ⟨rfl, ht⟩; obtain ⟨F_, hs_⟩ := Turned.sep ht (HS.out) rfl; have n0_ := Aside0.mk (Turned.below ht); clear HB HS ht; have HB := n0_; have HS := Aside0.mk hs_; clear n0_ hs_; (first | rw [HP1.out] at HS | rw [HP2.out] at HS)))
    (first | go_end0 | ((try simp only [Exit.inBlock, Exit.then]); refine bodyPost_ret (results_none rfl _ _ _) rfl ?_))
    exact ⟨rfl, Turned.of_sep HS.out HB0.out HB.out⟩
  by_cases hz2 : u < 16384
  · have hb0 : ((u : Int) == 0) = false := by rw [beq_eq_false_iff_ne]; omega
    have hb1 : decide ((u : Int) < 128) = false := decide_eq_false (by omega)
    have hb2 : decide ((u : Int) < 16384) = true := decide_eq_true (by omega)
    have hp1 : putL L 6 3 = L ++ nb 6 3 := putL_ok (n := 6) (w := 3) (by omega) (by decide) (by have := HL.out; omega)
    have hp2 : putL (L ++ nb 6 3) (u : Int) 14 = L ++ markB n := by
      have e : putL (L ++ nb 6 3) (u : Int) 14 = (L ++ nb 6 3) ++ nb u 14 := putL_ok (n := u) (w := 14) (by omega) (by omega) (by rw [List.length_append, nb_length]; have := HL.out; omega)
      rw [e, List.append_assoc]
      unfold markB
      dsimp only
      rw [← HU.out, if_neg (by omega), if_neg (by omega), if_pos (by omega)]
    have HP1 := Aside0.mk hp1
    have HP2 := Aside0.mk hp2
    clear hp1 hp2 hz0 hz1 hz2
    go_enter Try.func67, Try.ntmps67
    go_wp2_with (first
      | (go_at_call 98; (with_reducible refine (reffold_calls n _ HN.out).mono ?_); rintro e w1 ⟨rfl, hb⟩; rw [← HU.out]; have n0_ := Aside0.mk (below_step (by repeat (first | (with_reducible first | exact HB.out | apply below_alloc | apply pw_below_drewN | apply below_drew1) | exact HB.out)) hb); have n1_ := Aside0.mk (Sep.below (by repeat (first | (with_reducible first | exact HS.out | apply sep_alloc | apply sep_drewN | apply sep_drew) | exact HS.out)) hb); clear HB HS; have HB := n0_; have HS := n1_; clear n0_ n1_ hb)
      | (go_at_call 23; (with_reducible refine (refput_calls g _ _ _ _ w0 _ HB.out HS.out.own ?ha_ ?hb_ ?hc_).mono ?_); (case ha_ => have := HU64.out; constructor <;> omega); (case hb_ => constructor <;> omega); (case hc_ => (try rw [List.length_append, nb_length]); have := HL.out; omega); rintro e w6 ⟨rfl, ht⟩; obtain ⟨F_, hs_⟩ := Turned.sep ht (HS.out) rfl; have n0_ := Aside0.mk (Turned.below ht); clear HB HS ht; have HB := n0_; have HS := Aside0.mk hs_; clear n0_ hs_; (first | rw [HP1.out] at HS | rw [HP2.out] at HS)))
    (first | go_end0 | ((try simp only [Exit.inBlock, Exit.then]); refine bodyPost_ret (results_none rfl _ _ _) rfl ?_))
    exact ⟨rfl, Turned.of_sep HS.out HB0.out HB.out⟩
  by_cases hz3 : u < 4294967296
  · have hb0 : ((u : Int) == 0) = false := by rw [beq_eq_false_iff_ne]; omega
    have hb1 : decide ((u : Int) < 128) = false := decide_eq_false (by omega)
    have hb2 : decide ((u : Int) < 16384) = false := decide_eq_false (by omega)
    have hb3 : decide ((u : Int) < 4294967296) = true := decide_eq_true (by omega)
    have hp1 : putL L 14 4 = L ++ nb 14 4 := putL_ok (n := 14) (w := 4) (by omega) (by decide) (by have := HL.out; omega)
    have hp2 : putL (L ++ nb 14 4) (u : Int) 32 = L ++ markB n := by
      have e : putL (L ++ nb 14 4) (u : Int) 32 = (L ++ nb 14 4) ++ nb u 32 := putL_ok (n := u) (w := 32) (by omega) (by omega) (by rw [List.length_append, nb_length]; have := HL.out; omega)
      rw [e, List.append_assoc]
      unfold markB
      dsimp only
      rw [← HU.out, if_neg (by omega), if_neg (by omega), if_neg (by omega), if_pos (by omega)]
    have HP1 := Aside0.mk hp1
    have HP2 := Aside0.mk hp2
    clear hp1 hp2 hz0 hz1 hz2 hz3
    go_enter Try.func67, Try.ntmps67
    go_wp2_with (first
      | (go_at_call 98; (with_reducible refine (reffold_calls n _ HN.out).mono ?_); rintro e w1 ⟨rfl, hb⟩; rw [← HU.out]; have n0_ := Aside0.mk (below_step (by repeat (first | (with_reducible first | exact HB.out | apply below_alloc | apply pw_below_drewN | apply below_drew1) | exact HB.out)) hb); have n1_ := Aside0.mk (Sep.below (by repeat (first | (with_reducible first | exact HS.out | apply sep_alloc | apply sep_drewN | apply sep_drew) | exact HS.out)) hb); clear HB HS; have HB := n0_; have HS := n1_; clear n0_ n1_ hb)
      | (go_at_call 23; (with_reducible refine (refput_calls g _ _ _ _ w0 _ HB.out HS.out.own ?ha_ ?hb_ ?hc_).mono ?_); (case ha_ => have := HU64.out; constructor <;> omega); (case hb_ => constructor <;> omega); (case hc_ => (try rw [List.length_append, nb_length]); have := HL.out; omega); rintro e w6 ⟨rfl, ht⟩; obtain ⟨F_, hs_⟩ := Turned.sep ht (HS.out) rfl; have n0_ := Aside0.mk (Turned.below ht); clear HB HS ht; have HB := n0_; have HS := Aside0.mk hs_; clear n0_ hs_; (first | rw [HP1.out] at HS | rw [HP2.out] at HS)))
    (first | go_end0 | ((try simp only [Exit.inBlock, Exit.then]); refine bodyPost_ret (results_none rfl _ _ _) rfl ?_))
    exact ⟨rfl, Turned.of_sep HS.out HB0.out HB.out⟩
  have hb0 : ((u : Int) == 0) = false := by rw [beq_eq_false_iff_ne]; omega
  have hb1 : decide ((u : Int) < 128) = false := decide_eq_false (by omega)
  have hb2 : decide ((u : Int) < 16384) = false := decide_eq_false (by omega)
  have hb3 : decide ((u : Int) < 4294967296) = false := decide_eq_false (by omega)
  have hp1 : putL L 15 4 = L ++ nb 15 4 := putL_ok (n := 15) (w := 4) (by omega) (by decide) (by have := HL.out; omega)
  have hp2 : putL (L ++ nb 15 4) (u : Int) 64 = L ++ markB n := by
    have e : putL (L ++ nb 15 4) (u : Int) 64 = (L ++ nb 15 4) ++ nb u 64 := putL_ok (n := u) (w := 64) (by omega) (by exact HU64.out) (by rw [List.length_append, nb_length]; have := HL.out; omega)
    rw [e, List.append_assoc]
    unfold markB
    dsimp only
    rw [← HU.out, if_neg (by omega), if_neg (by omega), if_neg (by omega), if_neg (by omega)]
  have HP1 := Aside0.mk hp1
  have HP2 := Aside0.mk hp2
  clear hp1 hp2 hz0 hz1 hz2 hz3
  go_enter Try.func67, Try.ntmps67
  go_wp2_with (first
    | (go_at_call 98; (with_reducible refine (reffold_calls n _ HN.out).mono ?_); rintro e w1 ⟨rfl, hb⟩; rw [← HU.out]; have n0_ := Aside0.mk (below_step (by repeat (first | (with_reducible first | exact HB.out | apply below_alloc | apply pw_below_drewN | apply below_drew1) | exact HB.out)) hb); have n1_ := Aside0.mk (Sep.below (by repeat (first | (with_reducible first | exact HS.out | apply sep_alloc | apply sep_drewN | apply sep_drew) | exact HS.out)) hb); clear HB HS; have HB := n0_; have HS := n1_; clear n0_ n1_ hb)
    | (go_at_call 23; (with_reducible refine (refput_calls g _ _ _ _ w0 _ HB.out HS.out.own ?ha_ ?hb_ ?hc_).mono ?_); (case ha_ => have := HU64.out; constructor <;> omega); (case hb_ => constructor <;> omega); (case hc_ => (try rw [List.length_append, nb_length]); have := HL.out; omega); rintro e w6 ⟨rfl, ht⟩; obtain ⟨F_, hs_⟩ := Turned.sep ht (HS.out) rfl; have n0_ := Aside0.mk (Turned.below ht); clear HB HS ht; have HB := n0_; have HS := Aside0.mk hs_; clear n0_ hs_; (first | rw [HP1.out] at HS | rw [HP2.out] at HS)))
  (first | go_end0 | ((try simp only [Exit.inBlock, Exit.then]); refine bodyPost_ret (results_none rfl _ _ _) rfl ?_))
  exact ⟨rfl, Turned.of_sep HS.out HB0.out HB.out⟩
end Go.Proofs.Ythkpnnbjcendcaa.Sc
end
section
/- The reference's Put of numbers and split of points, as plain functions. -/
set_option linter.unusedVariables false
open Go.RowKit Go.Proofs.Ythkpnnbjcendcaa.X Go.Proofs.Ythkpnnbjcendcaa.Pl Go.Proofs.YthkpnnbjcendcaaW.PrintWords Go.Proofs.YthkpnnbjcendcaaW.PrintLast Go.Proofs.YthkpnnbjcendcaaW.PrintMore
namespace Go.Proofs.Ythkpnnbjcendcaa.Pure
theorem ref_put_from (k : Nat) : ∀ (n : Nat) (O : List Int), n < 128 ^ (k + 1) → n < 2 ^ 64 → O.length + k ≤ 200000000 → Ev (fun q => marigraphref01_Put.l0 q (n : Int) O) (O ++ varint n) := by
  induction k with
  | zero =>
    intro n O h h64 hO
    have hs : n < 128 := by simpa using h
    refine ev_succ (fun q => by rw [marigraphref01_Put.l0]) (ev_neg (by omega) (ev_pos (by omega) (ev_eq (Ev.now _) ?_)))
    rw [varint_small hs, show (n : Int) % 256 = (n : Int) by omega]
  | succ k ih =>
    intro n O h h64 hO
    by_cases hs : n < 128
    · refine ev_succ (fun q => by rw [marigraphref01_Put.l0]) (ev_neg (by omega) (ev_pos (by omega) (ev_eq (Ev.now _) ?_)))
      rw [varint_small hs, show (n : Int) % 256 = (n : Int) by omega]
    · refine ev_succ (fun q => by rw [marigraphref01_Put.l0]) (ev_pos (by omega) (ev_pos (by omega) ?_))
      have e1 : IntKind.u64.wrap (Int.tdiv (n : Int) 128) = ((n / 128 : Nat) : Int) := by
        rw [tdiv_pos (by omega), u64_wrap]; omega
      have e2 : IntKind.u64.wrap (Int.tmod (n : Int) 128 + 128) % 256 = ((n % 128 + 128 : Nat) : Int) := by
        rw [tmod_pos (by omega), u64_wrap]; omega
      rw [e1, e2]
      refine ev_eq (ih (n / 128) _ (by rw [Nat.pow_succ] at h; exact Nat.div_lt_of_lt_mul (by omega)) (by omega) (by rw [List.length_append, List.length_singleton]; omega)) ?_
      rw [varint_big hs, List.append_assoc]
      rfl
theorem ref_put_ev (b : List Int) (n : Nat) (hb : b.length ≤ 100000000) (hn : n < 2 ^ 64) : Ev (fun k => marigraphref01_Put.f k b (n : Int)) (b ++ varint n) := by
  unfold marigraphref01_Put.f
  simp only [Option.bind_some, List.nil_append, List.length_nil]
  refine ev_pos (by omega) (ref_put_from 9 n b (Nat.lt_of_lt_of_le hn (by decide)) hn (by omega))
theorem split_from (l : List S52) (hl : l.length ≤ 1000000) (d : Nat) : ∀ j : Nat, l.length - j = d → j ≤ l.length →
    Ev (fun k => marigraphref04_split.l0 k l ((l.take j).map (·.f0)) ((l.take j).map (·.f1)) (j : Int)) (l.map (·.f0), l.map (·.f1)) := by
  induction d with
  | zero =>
    intro j hd hj
    refine ev_succ (fun k => by rw [marigraphref04_split.l0]) (ev_neg (by omega) (ev_eq (Ev.now _) ?_))
    rw [List.take_of_length_le (by omega)]
  | succ d ih =>
    intro j hd hj
    have hlt : j < l.length := by omega
    have hnx : wrap64 ((j : Int) + 1) = ((j + 1 : Nat) : Int) := by rw [w64 (by omega) (by omega)]; simp
    have hlen : (l.take j).length = j := by rw [List.length_take]; omega
    refine ev_succ (fun k => by rw [marigraphref04_split.l0]) (ev_pos (by omega) (ev_pos (by omega) (ev_pos (by rw [List.length_map, hlen]; omega) (ev_pos (by rw [List.length_map, hlen]; omega) ?_))))
    rw [hnx]
    have htk : l.take (j + 1) = l.take j ++ [rd_T52 l (j : Int)] := by
      rw [List.take_succ_eq_append_getElem hlt]
      unfold rd_T52
      rw [Int.toNat_natCast, getD_lt _ _ _ hlt]
    have := ih (j + 1) (by omega) (by omega)
    rw [htk, List.map_append, List.map_append] at this
    exact this
theorem split_ev (l : List S52) (hl : l.length ≤ 1000000) : Ev (fun k => marigraphref04_split.f k l) (l.map (·.f0), l.map (·.f1)) := by
  unfold marigraphref04_split.f
  exact split_from l hl l.length 0 (by omega) (by omega)
/-- The marks of points are those of their numbers' Seconds, one by one. -/
theorem marks_step (a b : List Int) (j : Nat) (ha : j < a.length) (hb : j < b.length) : marks (a.take (j + 1)) (b.take (j + 1)) = marks (a.take j) (b.take j) ++ markB (rd a (j : Int)) ++ markB (rd b (j : Int)) := by
  induction j generalizing a b with
  | zero =>
    match a, b, ha, hb with
    | x :: a, y :: b, _, _ => simp [marks, rd]
  | succ j ih =>
    match a, b, ha, hb with
    | x :: a, y :: b, ha, hb =>
      have h1 := ih a b (by simpa using ha) (by simpa using hb)
      simp only [List.take_succ_cons, marks, h1, List.append_assoc]
      simp [rd]
end Go.Proofs.Ythkpnnbjcendcaa.Pure
end
section
/- The few of the laws of layer 4: the head of a list. -/
set_option linter.unusedVariables false
set_option linter.unusedSimpArgs false
open Go.RowKit Go.Proofs.Ythkpnnbjcendcaa.X Go.Proofs.Ythkpnnbjcendcaa.Pl Go.Proofs.Ythkpnnbjcendcaa.Sp Go.Proofs.Ythkpnnbjcendcaa.Sc Go.Proofs.Ythkpnnbjcendcaa.Pure Go.Proofs.YthkpnnbjcendcaaW.PrintWords Go.Proofs.YthkpnnbjcendcaaW.PrintLast Go.Proofs.YthkpnnbjcendcaaW.PrintMore
namespace Go.Proofs.Ythkpnnbjcendcaa.Sc
end Go.Proofs.Ythkpnnbjcendcaa.Sc
end

