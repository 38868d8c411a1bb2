/- What the law leans on, part 6: Gb, Pst, Pbk, Pcr, Ssu, Gc, Rri, Xg, X85, X86, X88. -/
import Derived.Test.YthkpnnbjcendcaaQf5
import Derived.Laws.BitsAllLaws
import Derived.BigQuiet
import Derived.Deep.QuietTactic
section
/- Ps, Pse, Pfo, Ppt, Psm, Pn, Mk, Op, Prs, Rmk, Rpp, Fs, put together. -/
section
/- Steps: the plain functions. -/
set_option linter.unusedVariables false
open Go.RowKit Go.Proofs.Ythkpnnbjcendcaa.X Go.Proofs.Ythkpnnbjcendcaa.Pl Go.Proofs.YthkpnnbjcendcaaW.PrintWords Go.Proofs.YthkpnnbjcendcaaW.PrintLast Go.Proofs.YthkpnnbjcendcaaW.PrintMore
namespace Go.Proofs.Ythkpnnbjcendcaa.Pure
/-- Of each number, by how much its step is more than the step ahead. -/
def secs : Int → Int → List Int → List Int
  | _, _, [] => []
  | a, b, n :: l => wrap64 (wrap64 (n - a) - b) :: secs n (wrap64 (n - a)) l
theorem secs_length (a b : Int) (l : List Int) : (secs a b l).length = l.length := by
  induction l generalizing a b with
  | nil => rfl
  | cons n l ih => simp [secs, ih]
/-- The numbers whose secs that is. -/
def frs : Int → Int → List Int → List Int
  | _, _, [] => []
  | a, b, s :: l => wrap64 (a + wrap64 (b + s)) :: frs (wrap64 (a + wrap64 (b + s))) (wrap64 (b + s)) l
theorem frs_length (a b : Int) (l : List Int) : (frs a b l).length = l.length := by
  induction l generalizing a b with
  | nil => rfl
  | cons n l ih => simp [frs, ih]
def fits64 (x : Int) : Prop := -9223372036854775808 ≤ x ∧ x ≤ 9223372036854775807
theorem fits_wrap (x : Int) : fits64 (wrap64 x) := by unfold fits64 wrap64; omega
theorem frs_secs (a b : Int) (l : List Int) (hl : ∀ x ∈ l, fits64 x) : frs a b (secs a b l) = l := by
  induction l generalizing a b with
  | nil => rfl
  | cons n l ih =>
    have hn := hl n List.mem_cons_self
    have h1 : wrap64 (b + wrap64 (wrap64 (n - a) - b)) = wrap64 (n - a) := by unfold wrap64; omega
    have h2 : wrap64 (a + wrap64 (n - a)) = n := by unfold fits64 at hn; unfold wrap64; omega
    simp only [secs, frs, h1, h2]
    rw [ih _ _ (fun x hx => hl x (List.mem_cons_of_mem _ hx))]
theorem secs_frs (a b : Int) (l : List Int) (hl : ∀ x ∈ l, fits64 x) : secs a b (frs a b l) = l := by
  induction l generalizing a b with
  | nil => rfl
  | cons s l ih =>
    have hn := hl s List.mem_cons_self
    have h1 : wrap64 (wrap64 (a + wrap64 (b + s)) - a) = wrap64 (b + s) := by unfold wrap64; omega
    have h2 : wrap64 (wrap64 (b + s) - b) = s := by unfold fits64 at hn; unfold wrap64; omega
    simp only [secs, frs, h1, h2]
    rw [ih _ _ (fun x hx => hl x (List.mem_cons_of_mem _ hx))]
/-- A number that may be below 0 as one that is not. -/
def foldN (n : Int) : Nat := if 0 ≤ n then (2 * n).toNat else (-2 * n - 1).toNat
/-- The bits of a number's mark. -/
def markB (n : Int) : List Bool :=
  let u := foldN n
  if u = 0 then [false] else if u < 128 then nb 2 2 ++ nb u 7 else if u < 16384 then nb 6 3 ++ nb u 14 else if u < 4294967296 then nb 14 4 ++ nb u 32 else nb 15 4 ++ nb u 64
theorem markB_length (n : Int) : (markB n).length ≤ 68 := by
  unfold markB
  dsimp only
  (repeat' split) <;> simp [nb_length]
/-- The bits of points: of each its time's mark, and its value's. -/
def marks : List Int → List Int → List Bool
  | x :: xs, y :: ys => markB x ++ markB y ++ marks xs ys
  | _, _ => []
/-- A number in groups of seven bits. -/
def varint (n : Nat) : List Int := if h : n < 128 then [(n : Int)] else ((n % 128 + 128 : Nat) : Int) :: varint (n / 128)
termination_by n
decreasing_by omega
end Go.Proofs.Ythkpnnbjcendcaa.Pure
end
section
/- Seconds, one by one. -/
set_option linter.unusedVariables false
open Go.RowKit Go.Proofs.Ythkpnnbjcendcaa.X Go.Proofs.Ythkpnnbjcendcaa.Pl Go.Proofs.YthkpnnbjcendcaaW.PrintWords Go.Proofs.YthkpnnbjcendcaaW.PrintLast Go.Proofs.YthkpnnbjcendcaaW.PrintMore
namespace Go.Proofs.Ythkpnnbjcendcaa.Pure
theorem rd_get (l : List Int) (j : Nat) : rd l (j : Int) = l.getD j 0 := by unfold rd; rw [Int.toNat_natCast]
end Go.Proofs.Ythkpnnbjcendcaa.Pure
end
section
/- Fold and Open, the program's and the reference's. -/
set_option linter.unusedVariables false
open Go.RowKit Go.Proofs.Ythkpnnbjcendcaa.X Go.Proofs.Ythkpnnbjcendcaa.Pl Go.Proofs.YthkpnnbjcendcaaW.PrintWords Go.Proofs.YthkpnnbjcendcaaW.PrintLast Go.Proofs.YthkpnnbjcendcaaW.PrintMore
namespace Go.Proofs.Ythkpnnbjcendcaa.Pure
theorem u64_wrap (x : Int) : IntKind.u64.wrap x = x % 18446744073709551616 := by simp [IntKind.wrap, IntKind.bits, IntKind.signed]
theorem foldN_lt {n : Int} (h : fits64 n) : foldN n < 2 ^ 64 := by
  unfold foldN
  unfold fits64 at h
  split <;> omega
theorem xor_run (a : Nat) (ha : a < 2 ^ 64) (b : Int) : Go.bits .xor .u64 (a : Int) b = ((BitVec.ofNat 64 a ^^^ BitVec.ofInt 64 b).toNat : Int) := by
  have h1 : (BitVec.ofNat 64 a ^^^ BitVec.ofInt 64 b).toNat < 2 ^ 64 := BitVec.isLt _
  show IntKind.u64.wrap ((BitVec.ofInt 64 (a : Int) ^^^ BitVec.ofInt 64 b).toNat : Int) = _
  rw [BitVec.ofInt_natCast]
  exact w_u64 (Int.natCast_nonneg _) (by exact_mod_cast h1)
theorem xor_ones (a : Nat) (ha : a < 2 ^ 64) : Go.bits .xor .u64 (a : Int) 18446744073709551615 = ((2 ^ 64 - 1 - a : Nat) : Int) := by
  rw [xor_run a ha, show BitVec.ofInt 64 18446744073709551615 = BitVec.allOnes 64 by decide, BitVec.xor_allOnes, BitVec.toNat_not, BitVec.toNat_ofNat, Nat.mod_eq_of_lt ha]
theorem xor_zero (a : Nat) (ha : a < 2 ^ 64) : Go.bits .xor .u64 (a : Int) 0 = (a : Int) := by
  rw [xor_run a ha, show BitVec.ofInt 64 0 = 0#64 by decide, BitVec.xor_zero, BitVec.toNat_ofNat, Nat.mod_eq_of_lt ha]
theorem fold_f {n : Int} (h : fits64 n) : octs_Fold.f n = some (foldN n : Int) := by
  unfold octs_Fold.f foldN
  unfold fits64 at h
  by_cases h0 : 0 ≤ n
  · rw [if_pos h0, u64_wrap, u64_wrap, u64_wrap, show n / 9223372036854775808 % 18446744073709551616 = 0 by omega, show n % 18446744073709551616 * 2 % 18446744073709551616 = (((2 * n).toNat : Nat) : Int) by omega, xor_zero _ (by omega)]
  · rw [if_neg h0, u64_wrap, u64_wrap, u64_wrap, show n / 9223372036854775808 % 18446744073709551616 = 18446744073709551615 by omega, show n % 18446744073709551616 * 2 % 18446744073709551616 = (((2 * n + 18446744073709551616).toNat : Nat) : Int) by omega, xor_ones _ (by omega)]
    congr 1
    omega
end Go.Proofs.Ythkpnnbjcendcaa.Pure
end
section
/- Points: whether they rise, and their marks. -/
set_option linter.unusedVariables false
open Go.RowKit Go.Proofs.Ythkpnnbjcendcaa.X Go.Proofs.Ythkpnnbjcendcaa.Pl Go.Proofs.YthkpnnbjcendcaaW.PrintWords Go.Proofs.YthkpnnbjcendcaaW.PrintLast Go.Proofs.YthkpnnbjcendcaaW.PrintMore
namespace Go.Proofs.Ythkpnnbjcendcaa.Pure
/-- Do they rise? -/
def rightB (l : List S52) : Bool := decide (∀ i : Nat, i < l.length → 0 < i → (rd_T52 l ((i - 1 : Nat) : Int)).f0 < (rd_T52 l (i : Int)).f0)
theorem right_from (l : List S52) (hl : l.length < 4611686018427387904) (d : Nat) : ∀ j : Nat, l.length - j = d → j ≤ l.length → (∀ i : Nat, i < j → 0 < i → (rd_T52 l ((i - 1 : Nat) : Int)).f0 < (rd_T52 l (i : Int)).f0) →
    Ev (fun k => steps_Right.l0 k l (l.length : Int) (j : Int)) (rightB l) := by
  induction d with
  | zero =>
    intro j hd hj h
    refine ev_succ (fun k => by rw [steps_Right.l0]) (ev_neg (by omega) (ev_eq (Ev.now _) ?_))
    unfold rightB
    rw [eq_comm, decide_eq_true_iff]
    intro i hi
    exact h i (by omega)
  | succ d ih =>
    intro j hd hj h
    have hnx : wrap64 ((j : Int) + 1) = ((j + 1 : Nat) : Int) := by rw [w64 (by omega) (by omega)]; simp
    refine ev_succ (fun k => by rw [steps_Right.l0]) (ev_pos (by omega) ?_)
    rw [hnx]
    by_cases h0 : (j : Int) > 0
    · have hpv : wrap64 ((j : Int) - 1) = ((j - 1 : Nat) : Int) := by rw [w64 (by omega) (by omega)]; omega
      rw [hpv]
      refine ev_pos h0 (ev_pos (by omega) (ev_pos (by omega) (ev_pos (by omega) (ev_pos (by omega) ?_))))
      by_cases hc : (rd_T52 l ((j - 1 : Nat) : Int)).f0 ≥ (rd_T52 l (j : Int)).f0
      · refine ev_pos hc (ev_eq (Ev.now _) ?_)
        unfold rightB
        rw [eq_comm, decide_eq_false_iff_not]
        intro hall
        have := hall j (by omega) (by omega)
        omega
      · refine ev_neg hc (ih (j + 1) (by omega) (by omega) ?_)
        intro i hi hi0
        by_cases hij : i = j
        · subst hij; omega
        · exact h i (by omega) hi0
    · refine ev_neg h0 (ih (j + 1) (by omega) (by omega) ?_)
      intro i hi hi0
      omega
theorem right_ev (l : List S52) (hl : l.length < 4611686018427387904) : Ev (fun k => steps_Right.f k l) (rightB l) := by
  unfold steps_Right.f
  exact right_from l hl l.length 0 (by omega) (by omega) (fun i hi => absurd hi (by omega))
/-- The bits of points, from pairs on. -/
def marksP (a b c d : Int) (l : List S52) : List Bool := marks (secs a b (l.map (·.f0))) (secs c d (l.map (·.f1)))
theorem marksP_cons (a b c d : Int) (p : S52) (l : List S52) :
    marksP a b c d (p :: l) = markB (wrap64 (wrap64 (p.f0 - a) - b)) ++ markB (wrap64 (wrap64 (p.f1 - c) - d)) ++ marksP p.f0 (wrap64 (p.f0 - a)) p.f1 (wrap64 (p.f1 - c)) l := rfl
theorem marksP_nil (a b c d : Int) : marksP a b c d [] = [] := rfl
theorem marksP_length (l : List S52) : ∀ a b c d, (marksP a b c d l).length ≤ 136 * l.length := by
  induction l with
  | nil => intro a b c d; simp [marksP_nil]
  | cons p l ih =>
    intro a b c d
    rw [marksP_cons, List.length_append, List.length_append]
    have h1 := markB_length (wrap64 (wrap64 (p.f0 - a) - b))
    have h2 := markB_length (wrap64 (wrap64 (p.f1 - c) - d))
    have h3 := ih p.f0 (wrap64 (p.f0 - a)) p.f1 (wrap64 (p.f1 - c))
    simp only [List.length_cons]
    omega
/-- What points come to: their bytes and an error. -/
def putB (l : List S52) : List Int := varint l.length ++ pack (marksP 0 0 0 0 l)
def putR (l : List S52) : List Int × Int := if l.length > 1024 then ([], 3) else if rightB l = false then ([], 1) else (putB l, 0)
def fitP (l : List S52) : Prop := ∀ y ∈ l, fits64 y.f0 ∧ fits64 y.f1
theorem rd52_mem {l : List S52} {i : Nat} (h : i < l.length) : rd_T52 l (i : Int) ∈ l := by
  unfold rd_T52
  rw [Int.toNat_natCast, getD_lt _ _ _ h]
  exact List.getElem_mem h
theorem drop52 {l : List S52} {i : Nat} (h : i < l.length) : l.drop i = rd_T52 l (i : Int) :: l.drop (i + 1) := by
  rw [List.drop_eq_getElem_cons h]
  unfold rd_T52
  rw [Int.toNat_natCast, getD_lt _ _ _ h]
end Go.Proofs.Ythkpnnbjcendcaa.Pure
end
section
/- A pair's next and back, Seconds and Firsts, walked. -/
set_option linter.unusedVariables false
set_option linter.unusedSimpArgs false
open Go.RowKit Go.Proofs.Ythkpnnbjcendcaa.X Go.Proofs.Ythkpnnbjcendcaa.Pl Go.Proofs.Ythkpnnbjcendcaa.Sp Go.Proofs.Ythkpnnbjcendcaa.Pure Go.Proofs.YthkpnnbjcendcaaW.PrintWords Go.Proofs.YthkpnnbjcendcaaW.PrintLast Go.Proofs.YthkpnnbjcendcaaW.PrintMore
namespace Go.Proofs.Ythkpnnbjcendcaa.Sc
/-- A pair in memory. -/
abbrev pairR (g : Nat) (a b : Int) : Res := box g #[.int .i64 a, .int .i64 b] 87
set_option maxRecDepth 100000 in
theorem next_calls (g : Nat) (a b n : Int) (w0 w : World) (hB : Below w0.heap.size w0 w) (hO : Own w0.heap.size w (pairR g a b)) :
    Calls Try.prog 64 #[.pointer (some ⟨g, 0, none⟩), .int .i64 n] w fun e w' => e = .returned (.int .i64 (wrap64 (wrap64 (n - a) - b))) ∧ Turned w0 w w' (fun k => k = g) (fun _ => pairR g n (wrap64 (n - a))) := by
  have HB := Aside0.mk hB
  have HS := Aside0.mk (Sep.start hO)
  have hc0 := Sep.c20 HS.out
  have hc1 := Sep.c21 HS.out
  have hf0 := Sep.free HS.out 0
  have hf1 := Sep.free HS.out 1
  clear hB hO
  go_enter Try.func64, Try.ntmps64
  go_wp2
  go_ret
  exact ⟨rfl, Turned.of_sep (mk := fun _ => pairR g n (wrap64 (n - a))) (F' := fun _ => True) ((HS.out.s20 _).s21 _) HB.out (below_set (below_set HB.out HS.out.ge) HS.out.ge)⟩
set_option maxHeartbeats 8000000 in
set_option maxRecDepth 100000 in
theorem back_calls (g : Nat) (a b n : Int) (w0 w : World) (hB : Below w0.heap.size w0 w) (hO : Own w0.heap.size w (pairR g a b)) :
    Calls Try.prog 71 #[.pointer (some ⟨g, 0, none⟩), .int .i64 n] w fun e w' => e = .returned (.int .i64 (wrap64 (a + wrap64 (b + n)))) ∧ Turned w0 w w' (fun k => k = g) (fun _ => pairR g (wrap64 (a + wrap64 (b + n))) (wrap64 (b + n))) := by
  have HB0 := Aside0.mk hB
  have HB := Aside0.mk hB
  have HS := Aside0.mk (Sep.start hO)
  have hc0 := Sep.c20 HS.out
  have hc1 := Sep.c21 HS.out
  have hf0 := Sep.free HS.out 0
  have hf1 := Sep.free HS.out 1
  clear hB hO
  go_enter Try.func71, Try.ntmps71
  go_wp2
  have n0_ := Aside0.mk (below_set (j := 1) (v := .int .i64 (wrap64 (b + n))) HB.out HS.out.ge); have n1_ := Aside0.mk (HS.out.s21 (.int .i64 (wrap64 (b + n)))); clear HB HS; have HB := n0_; have HS := n1_; clear n0_ n1_
  clear hc0 hc1 hf0 hf1
  generalize (w.setCell ⟨g, 1, none⟩ (.int .i64 (wrap64 (b + n)))) = w1 at HB HS ⊢
  refine start_ (n := 12) (S := fun w' => w'.cell? ⟨g, 0, none⟩ = some (.int .i64 a) ∧ w'.cell? ⟨g, 1, none⟩ = some (.int .i64 (wrap64 (b + n)))) (ds := [11]) #[false, false, false, false, false, false, false, false, false, false, false, false] (by kernel_rfl) rfl rfl ⟨Sep.c20 (sep_drew HS.out), Sep.c21 (sep_drew HS.out)⟩ (fun hHeld => ?_)
  have n0_ := Aside0.mk (below_drew HB.out)
  have n1_ := Aside0.mk (sep_drew HS.out)
  clear HB HS
  have HB := n0_
  have HS := n1_
  clear n0_ n1_
  generalize (World.drew w1) = wd_ at HB HS hHeld ⊢
  refine pure_ (i := 0) (N := some 13) (v := ?_) (a' := ?_) #[true, false, false, false, false, false, false, false, false, false, false, false] rfl rfl (by kernel_rfl) (fun _ _ _ h => h) (Or.inl ⟨by rfl, ?_⟩) ?_ ?_
  rotate_left
  · intro w'
    go_simp
    with_reducible rfl
  rotate_left
  · simp only [Act.put, List.setIfInBounds_toArray, List.set_cons_zero, List.set_cons_succ, i64_w, i32_w]
    rfl
  refine pure_ (i := 1) (N := some 14) (v := ?_) (a' := ?_) #[true, true, false, false, false, false, false, false, false, false, false, false] rfl rfl (by kernel_rfl) (fun _ _ _ h => h) (Or.inl ⟨by rfl, ?_⟩) ?_ ?_
  rotate_left
  · intro w'
    go_simp
    with_reducible rfl
  rotate_left
  · simp only [Act.put, List.setIfInBounds_toArray, List.set_cons_zero, List.set_cons_succ, i64_w, i32_w]
    rfl
  refine pure_ (i := 2) (N := some 15) (v := ?_) (a' := ?_) #[true, true, true, false, false, false, false, false, false, false, false, false] rfl rfl (by kernel_rfl) (fun _ _ _ h => h) (Or.inl ⟨by rfl, ?_⟩) ?_ ?_
  rotate_left
  · intro w'
    go_simp
    with_reducible rfl
  rotate_left
  · simp only [Act.put, List.setIfInBounds_toArray, List.set_cons_zero, List.set_cons_succ, i64_w, i32_w]
    rfl
  refine pure_ (i := 4) (N := some 17) (v := ?_) (a' := ?_) #[true, true, true, false, true, false, false, false, false, false, false, false] rfl rfl (by kernel_rfl) (fun _ _ _ h => h) (Or.inl ⟨by rfl, ?_⟩) ?_ ?_
  rotate_left
  · intro w'
    go_simp
    with_reducible rfl
  rotate_left
  · simp only [Act.put, List.setIfInBounds_toArray, List.set_cons_zero, List.set_cons_succ, i64_w, i32_w]
    rfl
  refine pure_ (i := 5) (N := some 18) (v := ?_) (a' := ?_) #[true, true, true, false, true, true, false, false, false, false, false, false] rfl rfl (by kernel_rfl) (fun _ _ _ h => h) (Or.inl ⟨by rfl, ?_⟩) ?_ ?_
  rotate_left
  · intro w'
    go_simp
    with_reducible rfl
  rotate_left
  · simp only [Act.put, List.setIfInBounds_toArray, List.set_cons_zero, List.set_cons_succ, i64_w, i32_w]
    rfl
  refine pure_ (i := 6) (N := some 19) (v := ?_) (a' := ?_) #[true, true, true, false, true, true, true, false, false, false, false, false] rfl rfl (by kernel_rfl) (fun _ _ _ h => h) (Or.inl ⟨by rfl, ?_⟩) ?_ ?_
  rotate_left
  · intro w'
    go_simp
    with_reducible rfl
  rotate_left
  · simp only [Act.put, List.setIfInBounds_toArray, List.set_cons_zero, List.set_cons_succ, i64_w, i32_w]
    rfl
  refine take_ (i := 3) (N := some 16) (v := ?_) (a' := ?_) #[true, true, true, true, true, true, true, false, false, false, false, false] rfl rfl (by kernel_rfl) (fun _ _ _ h => h) (Or.inl ⟨by rfl, ?_⟩) hHeld ?_ ?_
  rotate_left
  · rintro w' ⟨s0, s1⟩
    go_simp
    with_reducible rfl
  rotate_left
  · simp only [Act.put, List.setIfInBounds_toArray, List.set_cons_zero, List.set_cons_succ, i64_w, i32_w]
    rfl
  refine take_ (i := 7) (N := some 20) (v := ?_) (a' := ?_) #[true, true, true, true, true, true, true, true, false, false, false, false] rfl rfl (by kernel_rfl) (fun _ _ _ h => h) (Or.inl ⟨by rfl, ?_⟩) hHeld ?_ ?_
  rotate_left
  · rintro w' ⟨s0, s1⟩
    go_simp
    with_reducible rfl
  rotate_left
  · simp only [Act.put, List.setIfInBounds_toArray, List.set_cons_zero, List.set_cons_succ, i64_w, i32_w]
    rfl
  refine pure_ (i := 8) (N := some 21) (v := ?_) (a' := ?_) #[true, true, true, true, true, true, true, true, true, false, false, false] rfl rfl (by kernel_rfl) (fun _ _ _ h => h) (Or.inl ⟨by rfl, ?_⟩) ?_ ?_
  rotate_left
  · intro w'
    go_simp
    with_reducible rfl
  rotate_left
  · simp only [Act.put, List.setIfInBounds_toArray, List.set_cons_zero, List.set_cons_succ, i64_w, i32_w]
    rfl
  refine pure_ (i := 9) (N := some 22) (v := ?_) (a' := ?_) #[true, true, true, true, true, true, true, true, true, true, false, false] rfl rfl (by kernel_rfl) (fun _ _ _ h => h) (Or.inl ⟨by rfl, ?_⟩) ?_ ?_
  rotate_left
  · intro w'
    go_simp
    with_reducible rfl
  rotate_left
  · simp only [Act.put, List.setIfInBounds_toArray, List.set_cons_zero, List.set_cons_succ, i64_w, i32_w]
    rfl
  refine pure_ (i := 10) (N := some 23) (v := ?_) (a' := ?_) #[true, true, true, true, true, true, true, true, true, true, true, false] rfl rfl (by kernel_rfl) (fun _ _ _ h => h) (Or.inl ⟨by rfl, ?_⟩) ?_ ?_
  rotate_left
  · intro w'
    go_simp
    with_reducible rfl
  rotate_left
  · simp only [Act.put, List.setIfInBounds_toArray, List.set_cons_zero, List.set_cons_succ, i64_w, i32_w]
    rfl
  refine last_ (i := 11) (N := none) #[true, true, true, true, true, true, true, true, true, true, true, true] rfl rfl (by kernel_rfl) (by decide) (fun K hK => ?_)
  have hc0 := Sep.c20 HS.out
  have hf0 := Sep.free HS.out 0
  refine skip_ (w1 := ?_) (by rfl) rfl ?_ ?_
  rotate_left
  · go_simp
    rfl
  refine hK.out _ _ ?_
  clear hK K
  refine done_ (by kernel_rfl) ?_
  go_wp2
  go_ret
  exact ⟨rfl, Turned.of_sep (mk := fun _ => pairR g (wrap64 (a + wrap64 (b + n))) (wrap64 (b + n))) (F' := fun _ => True) (HS.out.s20 _) HB0.out (below_set HB.out HS.out.ge)⟩
set_option maxHeartbeats 8000000 in
set_option maxRecDepth 100000 in
theorem seconds_calls (A0 : Option Addr) (c0 : Nat) (l0 : List Int) (w : World) (hr0 : Kd.C (Kd.int .i64) w A0 l0.length l0) (hl : l0.length ≤ 1000000) :
    Calls Try.prog 35 #[.slice A0 l0.length c0] w fun e w' => ∃ v, e = .returned v ∧ Kd.R (Kd.int .i64) 3 w' w.heap.size (fun _ => True) v (secs 0 0 l0) ∧ Below w.heap.size w w' := by
  have HB := Aside0.mk (Below.refl w.heap.size w)
  have HS := Aside0.mk (Sep.nil w.heap.size w)
  have HR := Aside0.mk hr0
  have HL := Aside0.mk hl
  clear hr0 hl
  go_enter Try.func35, Try.ntmps35
  go_wp2_with (first
    | ((with_reducible refine gate_dst (N := 3) rfl ?_); (try (refine gate_guard (by rfl) ?_; dsimp only)); refine box_event ?hg (N := 3) ?hd (cs := #[.int .i64 0, .int .i64 0]) (t := 87) ?hr ?_; (case hd => rfl); (case hg => rfl); (case hr => first | (go_simp; done) | (go_simp; rfl)); intro g hg w1 hbox hb; have n0_ := Aside0.mk (below_step (by repeat (first | (with_reducible first | exact HB.out | apply below_alloc | apply pw_below_drewN | apply below_drew1) | exact HB.out)) hb); have n1_ := Aside0.mk (Sep.newbox (by repeat (first | (with_reducible first | exact HS.out | apply sep_alloc | apply sep_drewN | apply sep_drew) | exact HS.out)) hb (Nat.le_of_eq hg.symm) (below_size (by repeat (first | (with_reducible first | exact HB.out | apply below_alloc | apply pw_below_drewN | apply below_drew1) | exact HB.out))) hbox); clear HB HS; have HB := n0_; have HS := n1_; clear n0_ n1_ hb hbox hg))
  go_loopg [4, 9] l0.length (fun kq v4 v9 w' => ∃ (j : Nat) (a b : Int) (O : List Int) (F : Nat → Prop), v9 = .int .i64 (j : Int) ∧ Aside0 (kq + j = l0.length ∧ O.length = j ∧ O ++ secs a b (l0.drop j) = secs 0 0 l0) ∧ Aside0 (Sep w.heap.size w' [row F (Kd.int .i64) 3 w.heap.size v4 O, pairR g a b]) ∧ Aside0 (Below w.heap.size w w'))
  case atStart => exact ⟨0, 0, 0, [], _, rfl, ⟨by omega, rfl, by simp⟩, ⟨HS.out.nilrow (Kd.int .i64) 3⟩, HB⟩
  case round =>
    clear HS HB
    obtain ⟨j, a, b, O, F, rfl, HI, HS, HB⟩ := hrel
    obtain ⟨A_, c_, e_⟩ := Kd.R_slice (Sep.R HS.out)
    subst e_
    by_cases hlt : j < l0.length
    · obtain ⟨k1, rfl⟩ : ∃ m, gk = m + 1 := ⟨gk - 1, by have := HI.out; omega⟩
      have c1b : decide ((j : Int) < (l0.length : Int)) = true := decide_eq_true (by omega)
      have c1n : decide (j < l0.length) = true := decide_eq_true hlt
      have hnx : wrap64 ((j : Int) + 1) = ((j + 1 : Nat) : Int) := by have := HL.out; rw [w64 (by omega) (by omega)]; simp
      obtain ⟨ad, e1, hx0⟩ := Kd.at_int HR.out (j : Int) (by omega) (by omega)
      cases e1
      rw [Int.toNat_natCast] at hx0
      replace hx0 := (HB.out.cell (World.block_lt_of_cell? w _ hx0)).trans hx0
      have hdr : l0.drop j = rd l0 (j : Int) :: l0.drop (j + 1) := by
        rw [List.drop_eq_getElem_cons hlt]
        unfold rd
        rw [Int.toNat_natCast, getD_lt _ _ _ hlt]
      obtain ⟨x, hx⟩ : ∃ x, x = rd l0 (j : Int) := ⟨_, rfl⟩
      rw [← hx] at hx0 hdr
      have HDR := Aside0.mk hdr
      have HX := Aside0.mk hnx
      have c4 := eq_true hlt
      have c5 := eq_true (show (j : Int) < (l0.length : Int) by omega)
      have c6 := eq_true (show 0 ≤ (j : Int) by omega)
      clear hnx hlt hdr hx
      go_wp2_with (first
        | (go_at_call 64; (with_reducible refine (next_calls g a b x w _ HB.out HS.out.p2.own).mono ?_); rintro e w6 ⟨rfl, ht⟩; obtain ⟨F_, hs_⟩ := Turned.sep ht (HS.out.p2) rfl; have n0_ := Aside0.mk (Turned.below ht); clear HB HS ht; have HB := n0_; have HS := Aside0.mk hs_; clear n0_ hs_)
        | ((with_reducible refine gate_builtin (b := .append) (xs := #[.tmp 13, .tmp 16]) rfl ?_); (at_builtin); (refine wp_append (Kd.int .i64) (w0 := w) rfl (.tmp 13) (.tmp 16) 54 3 (.int .i64 0) 8 rfl Try.underlying54 info3 rfl (by decide) (by omega) (wrap64 (wrap64 (x - a) - b)) [.int .i64 (wrap64 (wrap64 (x - a) - b))] HS.out.p2 rfl rfl rfl (by repeat (first | (with_reducible first | exact HB.out | apply below_alloc | apply pw_below_drewN | apply below_drew1) | exact HB.out)) (by have := HI.out; have := HL.out; omega) ?_); (intro v_ w_ F_ hs_ hb_); (obtain ⟨O1, hy_⟩ : ∃ y_, y_ = O ++ [wrap64 (wrap64 (x - a) - b)] := ⟨_, rfl⟩; rw [← hy_] at hs_; have HO1 := Aside0.mk hy_; clear hy_ HB HS; have HB := Aside0.mk hb_; have HS := Aside0.mk hs_; clear hs_ hb_; obtain ⟨A_, c_, e_⟩ := Kd.R_slice (Sep.R HS.out); subst e_); (skip)))
      go_roundg k1
      case measure => omega
      case rel => exact ⟨j + 1, x, wrap64 (x - a), O1, _, (by first | rfl | rw [HX.out]), ⟨by have := HI.out; omega, by rw [HO1.out, List.length_append, HI.out.2.1]; rfl, by rw [← HI.out.2.2, HO1.out, HDR.out, secs, List.append_assoc]; rfl⟩, HS, HB⟩
    · have c1b : decide ((j : Int) < (l0.length : Int)) = false := decide_eq_false (by omega)
      have c1n : decide (j < l0.length) = false := decide_eq_false hlt
      have hO : O = secs 0 0 l0 := by
        have := HI.out.2.2
        rw [List.drop_of_length_le (by omega), show secs a b [] = [] from rfl, List.append_nil] at this
        exact this
      have HO := Aside0.mk hO
      clear hlt hO
      go_wp2
      go_ret
      exact ⟨_, rfl, by rw [← HO.out]; exact Kd.R_mono (Sep.R HS.out) (fun _ _ => trivial), HB.out⟩
end Go.Proofs.Ythkpnnbjcendcaa.Sc
end
section
/- A number's mark laid behind bits, walked. -/
set_option linter.unusedVariables false
set_option linter.unusedSimpArgs false
open Go.RowKit Go.Proofs.Ythkpnnbjcendcaa.X Go.Proofs.Ythkpnnbjcendcaa.Pl Go.Proofs.Ythkpnnbjcendcaa.Sp Go.Proofs.Ythkpnnbjcendcaa.Pure Go.Proofs.YthkpnnbjcendcaaW.PrintWords Go.Proofs.YthkpnnbjcendcaaW.PrintLast Go.Proofs.YthkpnnbjcendcaaW.PrintMore
namespace Go.Proofs.Ythkpnnbjcendcaa.Sc
theorem fold_calls (n : Int) (w : World) (h : fits64 n) : Calls Try.prog 96 #[.int .i64 n] w fun e w' => e = .returned (.int .u64 (foldN n : Int)) ∧ Below w.heap.size w w' := by
  refine (octs_Fold.calls n _ w (fold_f h)).mono ?_
  rintro e w' ⟨rfl, hd⟩
  exact ⟨rfl, hd.below⟩
theorem putC_ok {m : Nat} {n : Nat} {w : Nat} (hw : w ≤ 64) (hn : n < 2 ^ w) (hm : m + w ≤ 262144) : putC m (n : Int) (w : Int) = 0 := by
  unfold putC
  rw [if_neg (by omega), if_neg, if_neg (by omega)]
  rw [Int.toNat_natCast]
  simp only [Classical.not_not]
  exact_mod_cast hn
theorem putL_ok {L : List Bool} {n : Nat} {w : Nat} (hw : w ≤ 64) (hn : n < 2 ^ w) (hm : L.length + w ≤ 262144) : putL L (n : Int) (w : Int) = L ++ nb n w := by
  unfold putL
  rw [if_pos (putC_ok hw hn hm), Int.toNat_natCast, Int.toNat_natCast]
theorem wid0 (w : World) : (Instr.index 120 (.agg #[.int .i64 0, .int .i64 7, .int .i64 14, .int .i64 32, .int .i64 64]) (.int .i64 0)).run Try.prog w = .ok (.int .i64 0) w := by kernel_rfl
theorem wid1 (w : World) : (Instr.index 120 (.agg #[.int .i64 0, .int .i64 7, .int .i64 14, .int .i64 32, .int .i64 64]) (.int .i64 1)).run Try.prog w = .ok (.int .i64 7) w := by kernel_rfl
theorem wid2 (w : World) : (Instr.index 120 (.agg #[.int .i64 0, .int .i64 7, .int .i64 14, .int .i64 32, .int .i64 64]) (.int .i64 2)).run Try.prog w = .ok (.int .i64 14) w := by kernel_rfl
theorem wid3 (w : World) : (Instr.index 120 (.agg #[.int .i64 0, .int .i64 7, .int .i64 14, .int .i64 32, .int .i64 64]) (.int .i64 3)).run Try.prog w = .ok (.int .i64 32) w := by kernel_rfl
theorem wid4 (w : World) : (Instr.index 120 (.agg #[.int .i64 0, .int .i64 7, .int .i64 14, .int .i64 32, .int .i64 64]) (.int .i64 4)).run Try.prog w = .ok (.int .i64 64) w := by kernel_rfl
/-- What the widths ahead have told. -/
def lowU : Nat → Nat → Prop
  | 0, _ => True
  | 1, u => 0 < u
  | 2, u => 128 ≤ u
  | 3, u => 16384 ≤ u
  | _, u => 4294967296 ≤ u
set_option maxHeartbeats 8000000 in
set_option maxRecDepth 100000 in
theorem mark_calls (g : Nat) (F : Nat → Prop) (L : List Bool) (n : Int) (w0 w : World) (hB : Below w0.heap.size w0 w) (hO : Own w0.heap.size w (bitsR w0.heap.size g L F)) (hn : fits64 n) (hl : L.length + 68 ≤ 262144) :
    Calls Try.prog 63 #[.pointer (some ⟨g, 0, none⟩), .int .i64 n] w fun e w' => e = .returned (.tuple #[]) ∧ Turned w0 w w' F (bitsR w0.heap.size g (L ++ markB n)) := by
  have HB0 := Aside0.mk hB
  have HB := Aside0.mk hB
  have HS := Aside0.mk (Sep.start hO)
  have HN := Aside0.mk hn
  have HL := Aside0.mk hl
  have i0 := wid0
  have i1 := wid1
  have i2 := wid2
  have i3 := wid3
  have i4 := wid4
  obtain ⟨u, hu⟩ : ∃ u, u = foldN n := ⟨_, rfl⟩
  have HU := Aside0.mk hu
  have HU64 := Aside0.mk (show u < 2 ^ 64 from hu ▸ foldN_lt hn)
  clear hB hO hn hl hu
  go_enter Try.func63, Try.ntmps63
  go_wp2_with (first
    | (go_at_call 96; (with_reducible refine (fold_calls n _ HN.out).mono ?_); rintro e w1 ⟨rfl, hb⟩; rw [← HU.out]; have n0_ := Aside0.mk (below_step (by repeat (first | (with_reducible first | exact HB.out | apply below_alloc | apply pw_below_drewN | apply below_drew1) | exact HB.out)) hb); have n1_ := Aside0.mk (Sep.below (by repeat (first | (with_reducible first | exact HS.out | apply sep_alloc | apply sep_drewN | apply sep_drew) | exact HS.out)) hb); clear HB HS; have HB := n0_; have HS := n1_; clear n0_ n1_ hb)
    | (go_at_call 97; (with_reducible refine (steps_widths.calls 0 7 14 32 64 _ rfl).mono ?_); rintro e w2 ⟨rfl, hb⟩; have n0_ := Aside0.mk (below_step (by repeat (first | (with_reducible first | exact HB.out | apply below_alloc | apply pw_below_drewN | apply below_drew1) | exact HB.out)) hb); have n1_ := Aside0.mk (Sep.below (by repeat (first | (with_reducible first | exact HS.out | apply sep_alloc | apply sep_drewN | apply sep_drew) | exact HS.out)) hb); clear HB HS; have HB := n0_; have HS := n1_; clear n0_ n1_ hb))
  go_loopg [10] 5 (fun kq v10 w' => ∃ (i : Nat), v10 = .int .i64 (i : Int) ∧ Aside0 (kq + i = 5 ∧ i ≤ 4 ∧ lowU i u) ∧ Aside0 (Sep w0.heap.size w' [bitsR w0.heap.size g L F, frameR w0.heap.size w (bitsR w0.heap.size g L F).foot]) ∧ Aside0 (Below w0.heap.size w0 w'))
  case atStart => exact ⟨0, rfl, ⟨by omega, by omega, trivial⟩, HS, HB⟩
  case round =>
    clear HS HB
    obtain ⟨i, rfl, HI, HS, HB⟩ := hrel
    obtain ⟨k1, rfl⟩ : ∃ m, gk = m + 1 := ⟨gk - 1, by have := HI.out; omega⟩
    have hi := HI.out.2.1
    rcases (by omega : i = 0 ∨ i = 1 ∨ i = 2 ∨ i = 3 ∨ i = 4) with rfl | rfl | rfl | rfl | rfl
    · clear hi
      by_cases hz0 : u = 0
      · have hz := Aside0.mk hz0
        have hb1 : ((u : Int) != 0) = false := by rw [hz0]; rfl
        have hb2 : ((u : Int) / 1 != 0) = false := by rw [hz0]; rfl
        clear hz0
        have hp1 : putL L 0 1 = L ++ nb 0 1 := putL_ok (n := 0) (w := 1) (by omega) (by decide) (by have := HL.out; omega)
        have hp2 : putL (L ++ nb 0 1) (u : Int) 0 = L ++ markB n := by
          have hu0 : u = 0 := hz.out
          have e : putL (L ++ nb 0 1) (u : Int) 0 = (L ++ nb 0 1) ++ nb u 0 := putL_ok (n := u) (w := 0) (by omega) (by omega) (by rw [List.length_append, nb_length]; have := HL.out; omega)
          rw [e]
          unfold markB
          rw [← HU.out, hu0]
          simp [nb]
        have HP1 := Aside0.mk hp1
        have HP2 := Aside0.mk hp2
        clear hp1 hp2
        go_wp2_with (first
          | (go_at_call 22; (with_reducible refine (put_calls g _ _ _ _ w0 _ HB.out HS.out.own ?ha_ ?hb_).mono ?_); (case ha_ => have := HU64.out; constructor <;> omega); (case hb_ => constructor <;> omega); rintro e w6 ⟨rfl, ht⟩; obtain ⟨F_, hs_⟩ := Turned.sep ht (HS.out) rfl; have n0_ := Aside0.mk (Turned.below ht); clear HB HS ht; have HB := n0_; have HS := Aside0.mk hs_; clear n0_ hs_; (first | rw [HP1.out] at HS | rw [HP2.out] at HS)))
        (first | go_end0 | ((try simp only [Exit.inBlock, Exit.then]); refine bodyPost_ret (results_none rfl _ _ _) rfl ?_))
        exact ⟨rfl, Turned.of_sep HS.out HB0.out HB.out⟩
      · have hz := Aside0.mk hz0
        have hb1 : ((u : Int) != 0) = true := by rw [bne_iff_ne]; omega
        have hb2 : ((u : Int) / 1 != 0) = true := by rw [bne_iff_ne]; omega
        clear hz0
        go_wp2
        go_roundg k1
        case measure => omega
        case rel => exact ⟨1, (by first | rfl | simp), ⟨by have := HI.out; omega, by omega, (show 0 < u from by have := hz.out; omega)⟩, HS, HB⟩
    · clear hi
      by_cases hz0 : u < 128
      · have hz := Aside0.mk hz0
        have hb1 : ((u : Int) / 128 != 0) = false := by rw [bne_eq_false_iff_eq]; omega
        clear hz0
        have hp1 : putL L 2 2 = L ++ nb 2 2 := putL_ok (n := 2) (w := 2) (by omega) (by decide) (by have := HL.out; omega)
        have hp2 : putL (L ++ nb 2 2) (u : Int) 7 = L ++ markB n := by
          have e : putL (L ++ nb 2 2) (u : Int) 7 = (L ++ nb 2 2) ++ nb u 7 := putL_ok (n := u) (w := 7) (by omega) (by have := hz.out; omega) (by rw [List.length_append, nb_length]; have := HL.out; omega)
          have hlow : 0 < u := HI.out.2.2
          rw [e, List.append_assoc]
          unfold markB
          dsimp only
          rw [← HU.out, if_neg (by omega), if_pos (by have := hz.out; omega)]
        have HP1 := Aside0.mk hp1
        have HP2 := Aside0.mk hp2
        clear hp1 hp2
        go_wp2_with (first
          | (go_at_call 22; (with_reducible refine (put_calls g _ _ _ _ w0 _ HB.out HS.out.own ?ha_ ?hb_).mono ?_); (case ha_ => have := HU64.out; constructor <;> omega); (case hb_ => constructor <;> omega); rintro e w6 ⟨rfl, ht⟩; obtain ⟨F_, hs_⟩ := Turned.sep ht (HS.out) rfl; have n0_ := Aside0.mk (Turned.below ht); clear HB HS ht; have HB := n0_; have HS := Aside0.mk hs_; clear n0_ hs_; (first | rw [HP1.out] at HS | rw [HP2.out] at HS)))
        (first | go_end0 | ((try simp only [Exit.inBlock, Exit.then]); refine bodyPost_ret (results_none rfl _ _ _) rfl ?_))
        exact ⟨rfl, Turned.of_sep HS.out HB0.out HB.out⟩
      · have hz := Aside0.mk hz0
        have hb1 : ((u : Int) / 128 != 0) = true := by rw [bne_iff_ne]; omega
        clear hz0
        go_wp2
        go_roundg k1
        case measure => omega
        case rel => exact ⟨2, (by first | rfl | simp), ⟨by have := HI.out; omega, by omega, (show 128 ≤ u from by have := hz.out; omega)⟩, HS, HB⟩
    · clear hi
      by_cases hz0 : u < 16384
      · have hz := Aside0.mk hz0
        have hb1 : ((u : Int) / 16384 != 0) = false := by rw [bne_eq_false_iff_eq]; omega
        clear hz0
        have hp1 : putL L 6 3 = L ++ nb 6 3 := putL_ok (n := 6) (w := 3) (by omega) (by decide) (by have := HL.out; omega)
        have hp2 : putL (L ++ nb 6 3) (u : Int) 14 = L ++ markB n := by
          have e : putL (L ++ nb 6 3) (u : Int) 14 = (L ++ nb 6 3) ++ nb u 14 := putL_ok (n := u) (w := 14) (by omega) (by have := hz.out; omega) (by rw [List.length_append, nb_length]; have := HL.out; omega)
          have hlow : 128 ≤ u := HI.out.2.2
          rw [e, List.append_assoc]
          unfold markB
          dsimp only
          rw [← HU.out, if_neg (by omega), if_neg (by omega), if_pos (by have := hz.out; omega)]
        have HP1 := Aside0.mk hp1
        have HP2 := Aside0.mk hp2
        clear hp1 hp2
        go_wp2_with (first
          | (go_at_call 22; (with_reducible refine (put_calls g _ _ _ _ w0 _ HB.out HS.out.own ?ha_ ?hb_).mono ?_); (case ha_ => have := HU64.out; constructor <;> omega); (case hb_ => constructor <;> omega); rintro e w6 ⟨rfl, ht⟩; obtain ⟨F_, hs_⟩ := Turned.sep ht (HS.out) rfl; have n0_ := Aside0.mk (Turned.below ht); clear HB HS ht; have HB := n0_; have HS := Aside0.mk hs_; clear n0_ hs_; (first | rw [HP1.out] at HS | rw [HP2.out] at HS)))
        (first | go_end0 | ((try simp only [Exit.inBlock, Exit.then]); refine bodyPost_ret (results_none rfl _ _ _) rfl ?_))
        exact ⟨rfl, Turned.of_sep HS.out HB0.out HB.out⟩
      · have hz := Aside0.mk hz0
        have hb1 : ((u : Int) / 16384 != 0) = true := by rw [bne_iff_ne]; omega
        clear hz0
        go_wp2
        go_roundg k1
        case measure => omega
        case rel => exact ⟨3, (by first | rfl | simp), ⟨by have := HI.out; omega, by omega, (show 16384 ≤ u from by have := hz.out; omega)⟩, HS, HB⟩
    · clear hi
      by_cases hz0 : u < 4294967296
      · have hz := Aside0.mk hz0
        have hb1 : ((u : Int) / 4294967296 != 0) = false := by rw [bne_eq_false_iff_eq]; omega
        clear hz0
        have hp1 : putL L 14 4 = L ++ nb 14 4 := putL_ok (n := 14) (w := 4) (by omega) (by decide) (by have := HL.out; omega)
        have hp2 : putL (L ++ nb 14 4) (u : Int) 32 = L ++ markB n := by
          have e : putL (L ++ nb 14 4) (u : Int) 32 = (L ++ nb 14 4) ++ nb u 32 := putL_ok (n := u) (w := 32) (by omega) (by have := hz.out; omega) (by rw [List.length_append, nb_length]; have := HL.out; omega)
          have hlow : 16384 ≤ u := HI.out.2.2
          rw [e, List.append_assoc]
          unfold markB
          dsimp only
          rw [← HU.out, if_neg (by omega), if_neg (by omega), if_neg (by omega), if_pos (by have := hz.out; omega)]
        have HP1 := Aside0.mk hp1
        have HP2 := Aside0.mk hp2
        clear hp1 hp2
        go_wp2_with (first
          | (go_at_call 22; (with_reducible refine (put_calls g _ _ _ _ w0 _ HB.out HS.out.own ?ha_ ?hb_).mono ?_); (case ha_ => have := HU64.out; constructor <;> omega); (case hb_ => constructor <;> omega); rintro e w6 ⟨rfl, ht⟩; obtain ⟨F_, hs_⟩ := Turned.sep ht (HS.out) rfl; have n0_ := Aside0.mk (Turned.below ht); clear HB HS ht; have HB := n0_; have HS := Aside0.mk hs_; clear n0_ hs_; (first | rw [HP1.out] at HS | rw [HP2.out] at HS)))
        (first | go_end0 | ((try simp only [Exit.inBlock, Exit.then]); refine bodyPost_ret (results_none rfl _ _ _) rfl ?_))
        exact ⟨rfl, Turned.of_sep HS.out HB0.out HB.out⟩
      · have hz := Aside0.mk hz0
        have hb1 : ((u : Int) / 4294967296 != 0) = true := by rw [bne_iff_ne]; omega
        clear hz0
        go_wp2
        go_roundg k1
        case measure => omega
        case rel => exact ⟨4, (by first | rfl | simp), ⟨by have := HI.out; omega, by omega, (show 4294967296 ≤ u from by have := hz.out; omega)⟩, HS, HB⟩
    · have hp1 : putL L 15 4 = L ++ nb 15 4 := putL_ok (n := 15) (w := 4) (by omega) (by decide) (by have := HL.out; omega)
      have hp2 : putL (L ++ nb 15 4) (u : Int) 64 = L ++ markB n := by
        have e : putL (L ++ nb 15 4) (u : Int) 64 = (L ++ nb 15 4) ++ nb u 64 := putL_ok (n := u) (w := 64) (by omega) (by exact HU64.out) (by rw [List.length_append, nb_length]; have := HL.out; omega)
        have hlow : 4294967296 ≤ u := HI.out.2.2
        rw [e, List.append_assoc]
        unfold markB
        dsimp only
        rw [← HU.out, if_neg (by omega), if_neg (by omega), if_neg (by omega), if_neg (by omega)]
      clear hi
      have HP1 := Aside0.mk hp1
      have HP2 := Aside0.mk hp2
      clear hp1 hp2
      go_wp2_with (first
        | (go_at_call 22; (with_reducible refine (put_calls g _ _ _ _ w0 _ HB.out HS.out.own ?ha_ ?hb_).mono ?_); (case ha_ => have := HU64.out; constructor <;> omega); (case hb_ => constructor <;> omega); rintro e w6 ⟨rfl, ht⟩; obtain ⟨F_, hs_⟩ := Turned.sep ht (HS.out) rfl; have n0_ := Aside0.mk (Turned.below ht); clear HB HS ht; have HB := n0_; have HS := Aside0.mk hs_; clear n0_ hs_; (first | rw [HP1.out] at HS | rw [HP2.out] at HS)))
      (first | go_end0 | ((try simp only [Exit.inBlock, Exit.then]); refine bodyPost_ret (results_none rfl _ _ _) rfl ?_))
      exact ⟨rfl, Turned.of_sep HS.out HB0.out HB.out⟩
end Go.Proofs.Ythkpnnbjcendcaa.Sc
end
section
/- octs.Put, walked: bytes, and a number behind them. -/
set_option linter.unusedVariables false
set_option linter.unusedSimpArgs false
open Go.RowKit Go.Proofs.Ythkpnnbjcendcaa.X Go.Proofs.Ythkpnnbjcendcaa.Pl Go.Proofs.Ythkpnnbjcendcaa.Sp Go.Proofs.Ythkpnnbjcendcaa.Pure Go.Proofs.YthkpnnbjcendcaaW.PrintWords Go.Proofs.YthkpnnbjcendcaaW.PrintLast Go.Proofs.YthkpnnbjcendcaaW.PrintMore
namespace Go.Proofs.Ythkpnnbjcendcaa.Pure
theorem or_all : ∀ x, x < 256 → x ||| 128 = x % 128 + 128 := by decide +kernel
theorem or_128 (n : Nat) : Go.bits .or .u8 ((n : Int) % 256) 128 = ((n % 128 + 128 : Nat) : Int) := by
  have h := (bits_nat .u8 8 (by decide) wraps_u8 (n % 256) 128 (Nat.mod_lt _ (by decide)) (by decide)).2
  rw [show (n : Int) % 256 = ((n % 256 : Nat) : Int) by omega]
  rw [show (128 : Int) = ((128 : Nat) : Int) from rfl, h, or_all _ (Nat.mod_lt _ (by decide))]
  omega
theorem varint_small {n : Nat} (h : n < 128) : varint n = [(n : Int)] := by rw [varint, dif_pos h]
theorem varint_big {n : Nat} (h : ¬ n < 128) : varint n = ((n % 128 + 128 : Nat) : Int) :: varint (n / 128) := by rw [varint, dif_neg h]
end Go.Proofs.Ythkpnnbjcendcaa.Pure
namespace Go.Proofs.Ythkpnnbjcendcaa.Sc
set_option maxHeartbeats 8000000 in
set_option maxRecDepth 100000 in
theorem oput_calls (A0 : Option Addr) (c0 : Nat) (b : List Int) (n : Nat) (w : World) (hr0 : Kd.C (Kd.int .u8) w A0 b.length b) (hl : b.length ≤ 100000000) (hn : n < 2 ^ 64) :
    Calls Try.prog 65 #[.slice A0 b.length c0, .int .u64 (n : Int)] w fun e w' => ∃ v, e = .returned v ∧ Kd.R (Kd.int .u8) 5 w' w.heap.size (fun _ => True) v (b ++ varint n) ∧ Below w.heap.size w w' := by
  have HB := Aside0.mk (Below.refl w.heap.size w)
  have HS := Aside0.mk (Sep.nil w.heap.size w)
  have HR := Aside0.mk hr0
  have HL := Aside0.mk hl
  have HN := Aside0.mk hn
  obtain ⟨m, hm⟩ : ∃ m : Nat, m = b.length + 10 := ⟨_, rfl⟩
  have hw : wrap64 ((b.length : Int) + 10) = (m : Int) := by rw [w64 (by omega) (by omega)]; omega
  have HM := Aside0.mk hm
  clear hr0 hl hn hm
  go_enter Try.func65, Try.ntmps65
  go_wp2_with (first
    | ((with_reducible refine gate_dst (N := 9) rfl ?_); (try (refine gate_guard (by rfl) ?_; dsimp only)); (refine wp_makecap (Kd.int .u8) (w0 := w) rfl (N := 9) rfl 24 5 (.const (.int .i64 0)) (.tmp 8) rfl (m) Try.underlying24 (.int .u8 0) 1 info5 rfl (by decide) (by omega) (by have := HM.out; have := HL.out; omega) (by repeat (first | (with_reducible first | exact HS.out | apply sep_alloc | apply sep_drewN | apply sep_drew) | exact HS.out)) (by repeat (first | (with_reducible first | exact HB.out | apply below_alloc | apply pw_below_drewN | apply below_drew1) | exact HB.out)) ?hx_ ?hy_ ?_; (case hx_ => first | rfl | (go_simp; done)); (case hy_ => first | rfl | (go_simp; done))); intro A_ c_ w_ F_ hs_ hb_; clear HB HS; have HB := Aside0.mk hb_; have HS := Aside0.mk hs_; clear hs_ hb_; (skip))
    | ((with_reducible refine gate_builtin (b := .append) (xs := #[.tmp 9, .tmp 10]) rfl ?_); (refine wp_append_row (Kd.int .u8) (w0 := w) rfl (.tmp 9) (.tmp 10) 24 5 (.int .u8 0) 1 rfl Try.underlying24 info5 rfl (by decide) (by omega) b _ _ _ HS.out (Kd.C_below HR.out HB.out) (fun _ _ h => h) (by repeat (first | (with_reducible first | exact HB.out | apply below_alloc | apply pw_below_drewN | apply below_drew1) | exact HB.out)) (by have := HL.out; simp; omega) rfl rfl ?_); (intro v_ w_ F_ hs_ hb_); (obtain ⟨O0, hy_⟩ : ∃ y_, y_ = ([] : List Int) ++ b := ⟨_, rfl⟩; rw [← hy_] at hs_; have HO0 := Aside0.mk hy_; clear hy_ HB HS; have HB := Aside0.mk hb_; have HS := Aside0.mk hs_; clear hs_ hb_; obtain ⟨A_, c_, e_⟩ := Kd.R_slice (Sep.R HS.out); subst e_); (skip)))
  go_loopg [1, 5] 10 (fun kq v1 v5 w' => ∃ (x : Nat) (O : List Int) (F : Nat → Prop), v1 = .int .u64 (x : Int) ∧ Aside0 (x < 128 ^ kq ∧ O.length + kq = b.length + 10 ∧ O ++ varint x = b ++ varint n) ∧ Aside0 (Sep w.heap.size w' [row F (Kd.int .u8) 5 w.heap.size v5 O]) ∧ Aside0 (Below w.heap.size w w'))
  case atStart => exact ⟨n, O0, _, rfl, ⟨Nat.lt_of_lt_of_le HN.out (by decide), by rw [HO0.out]; simp, by rw [HO0.out]; simp⟩, HS, HB⟩
  case round =>
    clear HS HB
    obtain ⟨x, O, F, rfl, HI, HS, HB⟩ := hrel
    obtain ⟨A_, c_, e_⟩ := Kd.R_slice (Sep.R HS.out)
    subst e_
    have HOL := Aside0.mk (show O.length + 1 ≤ 140737488355328 by have := HI.out; have := HL.out; omega)
    by_cases hx : x < 128
    · have hb1 : decide (128 ≤ (x : Int)) = false := decide_eq_false (by omega)
      have hb2 : (x : Int) % 256 = (x : Int) := by omega
      have HX := Aside0.mk hx
      clear hx
      go_wp2_with (first
        | ((with_reducible refine gate_builtin (b := .append) (xs := #[.tmp 22, .tmp 25]) rfl ?_); (at_builtin); (refine wp_append (Kd.int .u8) (w0 := w) rfl (.tmp 22) (.tmp 25) 24 5 (.int .u8 0) 1 rfl Try.underlying24 info5 rfl (by decide) (by omega) ((x : Int)) [.int .u8 (x : Int)] HS.out rfl rfl rfl (by repeat (first | (with_reducible first | exact HB.out | apply below_alloc | apply pw_below_drewN | apply below_drew1) | exact HB.out)) (by have := HOL.out; omega) ?_); (intro v_ w_ F_ hs_ hb_); (obtain ⟨O1, hy_⟩ : ∃ y_, y_ = O ++ [(x : Int)] := ⟨_, rfl⟩; rw [← hy_] at hs_; have HO1 := Aside0.mk hy_; clear hy_ HB HS; have HB := Aside0.mk hb_; have HS := Aside0.mk hs_; clear hs_ hb_; obtain ⟨A_, c_, e_⟩ := Kd.R_slice (Sep.R HS.out); subst e_); (skip)))
      go_ret
      refine ⟨_, rfl, ?_, HB.out⟩
      have := HI.out.2.2
      rw [varint_small HX.out, ← HO1.out] at this
      rw [← this]
      exact Kd.R_mono (Sep.R HS.out) (fun _ _ => trivial)
    · have hk : gk ≠ 0 := by rintro rfl; have := HI.out.1; simp at this; omega
      obtain ⟨k1, rfl⟩ : ∃ m, gk = m + 1 := ⟨gk - 1, by omega⟩
      have hb1 : decide (128 ≤ (x : Int)) = true := decide_eq_true (by omega)
      have hor := or_128 x
      obtain ⟨y, hy⟩ : ∃ y : Int, y = ((x % 128 + 128 : Nat) : Int) := ⟨_, rfl⟩
      rw [← hy] at hor
      have HY := Aside0.mk hy
      have HX := Aside0.mk hx
      clear hx hk hy
      go_wp2_with (first
        | ((with_reducible refine gate_builtin (b := .append) (xs := #[.tmp 16, .tmp 20]) rfl ?_); (at_builtin); (refine wp_append (Kd.int .u8) (w0 := w) rfl (.tmp 16) (.tmp 20) 24 5 (.int .u8 0) 1 rfl Try.underlying24 info5 rfl (by decide) (by omega) (y) [.int .u8 y] HS.out rfl rfl rfl (by repeat (first | (with_reducible first | exact HB.out | apply below_alloc | apply pw_below_drewN | apply below_drew1) | exact HB.out)) (by have := HOL.out; omega) ?_); (intro v_ w_ F_ hs_ hb_); (obtain ⟨O1, hy_⟩ : ∃ y_, y_ = O ++ [y] := ⟨_, rfl⟩; rw [← hy_] at hs_; have HO1 := Aside0.mk hy_; clear hy_ HB HS; have HB := Aside0.mk hb_; have HS := Aside0.mk hs_; clear hs_ hb_; obtain ⟨A_, c_, e_⟩ := Kd.R_slice (Sep.R HS.out); subst e_); (skip)))
      go_roundg k1
      case measure => omega
      case rel => exact ⟨x / 128, O1, _, (by first | rfl | simp), ⟨by have := HI.out.1; rw [Nat.pow_succ] at this; exact Nat.div_lt_of_lt_mul (by omega), by rw [HO1.out, List.length_append, List.length_singleton]; have := HI.out; omega, by rw [← HI.out.2.2, HO1.out, varint_big HX.out, HY.out, List.append_assoc]; rfl⟩, HS, HB⟩
theorem oput_nil (n : Nat) (w : World) (hn : n < 2 ^ 64) :
    Calls Try.prog 65 #[.slice none 0 0, .int .u64 (n : Int)] w fun e w' => ∃ v, e = .returned v ∧ Kd.R (Kd.int .u8) 5 w' w.heap.size (fun _ => True) v (varint n) ∧ Below w.heap.size w w' :=
  oput_calls none 0 [] n w (Kd.C_nil _ _) (by decide) hn
theorem varint_le (k : Nat) : ∀ n : Nat, n < 128 ^ (k + 1) → 1 ≤ (varint n).length ∧ (varint n).length ≤ k + 1 := by
  induction k with
  | zero =>
    intro n h
    rw [varint_small (by simpa using h)]
    simp
  | succ k ih =>
    intro n h
    by_cases hs : n < 128
    · rw [varint_small hs]; simp
    · rw [varint_big hs]
      have := ih (n / 128) (by rw [Nat.pow_succ] at h; exact Nat.div_lt_of_lt_mul (by omega))
      simp only [List.length_cons]
      omega
end Go.Proofs.Ythkpnnbjcendcaa.Sc
end
end
section
/- Bytes as texts: which are the same. -/
set_option linter.unusedVariables false
open Go.RowKit Go.Proofs.Ythkpnnbjcendcaa.X Go.Proofs.Ythkpnnbjcendcaa.Pl Go.Proofs.YthkpnnbjcendcaaW.PrintWords Go.Proofs.YthkpnnbjcendcaaW.PrintLast Go.Proofs.YthkpnnbjcendcaaW.PrintMore
namespace Go.Proofs.Ythkpnnbjcendcaa.Pure
theorem str_inj {xs ys : List Int} (hx : Byt xs) (hy : Byt ys) : strOfNums xs = strOfNums ys ↔ xs = ys := by
  constructor
  · intro h
    have h1 : (xs.map fun n => UInt8.ofNat n.toNat) = ys.map fun n => UInt8.ofNat n.toNat := by
      rw [← strOfNums_data, ← strOfNums_data, h]
    have key : ∀ l : List Int, Byt l → (l.map fun n => UInt8.ofNat n.toNat).map (fun c => ((c.toNat : Nat) : Int)) = l := by
      intro l hl
      rw [List.map_map]
      conv => rhs; rw [← List.map_id l]
      refine List.map_congr_left fun n hn => ?_
      have := hl n hn
      simp only [Function.comp, id]
      rw [UInt8.toNat_ofNat']
      omega
    rw [← key xs hx, ← key ys hy, h1]
  · rintro rfl
    rfl
/-- Texts compared, as the model does it. -/
theorem bytes_eq {a b : ByteArray} (h : a = b) : (a.toList == b.toList) = true := by subst h; exact beq_self_eq_true _
theorem bytes_ne {a b : ByteArray} (h : a ≠ b) : (a.toList == b.toList) = false := by
  rw [beq_eq_false_iff_ne, ByteArray.toList_eq, ByteArray.toList_eq]
  intro e
  apply h
  cases a; cases b
  congr 1
  exact Array.toList_inj.1 e
theorem varint_byt (n : Nat) : Byt (varint n) := by
  induction n using Nat.strongRecOn with
  | _ n ih =>
    intro x hx
    by_cases h : n < 128
    · rw [varint_small h] at hx
      obtain rfl := List.mem_singleton.1 hx
      omega
    · rw [varint_big h] at hx
      rcases List.mem_cons.1 hx with rfl | hx
      · omega
      · exact ih (n / 128) (by omega) x hx
end Go.Proofs.Ythkpnnbjcendcaa.Pure
end
section
/- What was put is there: the bits of numbers put one behind the other. -/
set_option linter.unusedVariables false
open Go.RowKit Go.Proofs.Ythkpnnbjcendcaa.X Go.Proofs.Ythkpnnbjcendcaa.Pl Go.Proofs.YthkpnnbjcendcaaW.PrintWords Go.Proofs.YthkpnnbjcendcaaW.PrintLast Go.Proofs.YthkpnnbjcendcaaW.PrintMore
namespace Go.Proofs.Ythkpnnbjcendcaa.Pure
theorem byt_pack (L : List Bool) : Byt (pack L) := by
  intro x hx
  unfold pack at hx
  obtain ⟨i, _, rfl⟩ := List.mem_map.1 hx
  have := byteOf_lt (fun j => L.getD (8 * i + j) false)
  omega
theorem clr_pack (L : List Bool) : clr (pack L) (L.length : Int) = true := by
  unfold clr
  rw [if_neg (by omega)]
  simp only [decide_eq_true_eq]
  intro q hq hm
  rw [pack_bt L q hq, List.getD_eq_getElem?_getD, List.getElem?_eq_none (by omega)]
  rfl
end Go.Proofs.Ythkpnnbjcendcaa.Pure
end
section
/- The sum of bytes as a plain function: a byte turned turns it. -/
set_option linter.unusedVariables false
set_option linter.unusedSimpArgs false
open Go.RowKit Go.Proofs.Ythkpnnbjcendcaa.X Go.Proofs.Ythkpnnbjcendcaa.Pl Go.Proofs.YthkpnnbjcendcaaW.PrintWords Go.Proofs.YthkpnnbjcendcaaW.PrintLast Go.Proofs.YthkpnnbjcendcaaW.PrintMore
namespace Go.Proofs.Ythkpnnbjcendcaa.Pure
/-- One bit more. -/
def crc1 (s : Nat) : Nat := if s < 2147483648 then 2 * s else (2 * (s - 2147483648)) ^^^ 79764919
def crcK : Nat → Nat → Nat
  | 0, s => s
  | k + 1, s => crcK k (crc1 s)
/-- One byte more. -/
def crcB (s : Nat) (c : Int) : Nat := crcK 8 (s ^^^ (c.toNat * 16777216))
def crcL (s : Nat) (b : List Int) : Nat := b.foldl crcB s
theorem crcL_nil (s : Nat) : crcL s [] = s := rfl
theorem crcL_cons (s : Nat) (c : Int) (b : List Int) : crcL s (c :: b) = crcL (crcB s c) b := by unfold crcL; rw [List.foldl_cons]
theorem crcK_zero (s : Nat) : crcK 0 s = s := rfl
theorem crcK_one (k s : Nat) : crcK (k + 1) s = crcK k (crc1 s) := rfl
def sumN (b : List Int) : Nat := crcL 4294967295 b ^^^ 4294967295
theorem crc1_lt {s : Nat} (h : s < 4294967296) : crc1 s < 4294967296 := by
  unfold crc1
  split
  · omega
  · exact Nat.xor_lt_two_pow (n := 32) (by omega) (by decide)
theorem crcK_lt (k : Nat) : ∀ {s : Nat}, s < 4294967296 → crcK k s < 4294967296 := by
  induction k with
  | zero => intro s h; exact h
  | succ k ih => intro s h; rw [crcK_one]; exact ih (crc1_lt h)
theorem crcB_lt {s : Nat} {c : Int} (h : s < 4294967296) (hc : 0 ≤ c ∧ c ≤ 255) : crcB s c < 4294967296 := crcK_lt 8 (Nat.xor_lt_two_pow (n := 32) h (by omega))
theorem crcL_lt {b : List Int} (hb : Byt b) : ∀ {s : Nat}, s < 4294967296 → crcL s b < 4294967296 := by
  induction b with
  | nil => intro s h; rw [crcL_nil]; exact h
  | cons c b ih =>
    intro s h
    rw [crcL_cons]
    exact ih (fun x hx => hb x (List.mem_cons_of_mem _ hx)) (crcB_lt h (hb c List.mem_cons_self))
theorem sumN_lt {b : List Int} (hb : Byt b) : sumN b < 4294967296 := Nat.xor_lt_two_pow (n := 32) (crcL_lt hb (by decide)) (by decide)
theorem xor_can {a b c : Nat} (h : a ^^^ c = b ^^^ c) : a = b := by
  have := congrArg (· ^^^ c) h
  simpa [Nat.xor_assoc] using this
theorem odd_xor (m : Nat) : (2 * m ^^^ 79764919) % 2 = 1 := by
  have h : (2 * m ^^^ 79764919).testBit 0 = true := by
    rw [Nat.testBit_xor]
    simp [Nat.testBit_zero]
  rw [Nat.testBit_zero] at h
  exact of_decide_eq_true h
theorem crc1_inj {s t : Nat} (h : crc1 s = crc1 t) : s = t := by
  unfold crc1 at h
  split at h <;> split at h
  · omega
  · have := odd_xor (t - 2147483648)
    omega
  · have := odd_xor (s - 2147483648)
    omega
  · have := xor_can h
    omega
theorem crcK_inj (k : Nat) : ∀ {s t : Nat}, crcK k s = crcK k t → s = t := by
  induction k with
  | zero => intro s t h; exact h
  | succ k ih => intro s t h; rw [crcK_one, crcK_one] at h; exact crc1_inj (ih h)
theorem crcB_inj {s t : Nat} {c : Int} (h : crcB s c = crcB t c) : s = t := xor_can (crcK_inj 8 h)
theorem crcB_byte {s : Nat} {c d : Int} (hc : 0 ≤ c) (hd : 0 ≤ d) (h : crcB s c = crcB s d) : c = d := by
  have h := crcK_inj 8 h
  rw [Nat.xor_comm s, Nat.xor_comm s] at h
  have := xor_can h
  omega
theorem crcL_inj (b : List Int) : ∀ {s t : Nat}, crcL s b = crcL t b → s = t := by
  induction b with
  | nil => intro s t h; rw [crcL_nil, crcL_nil] at h; exact h
  | cons c b ih =>
    intro s t h
    rw [crcL_cons, crcL_cons] at h
    exact crcB_inj (ih h)
theorem crcL_set (b : List Int) : ∀ (s k : Nat) (x : Int) (hk : k < b.length), Byt b → 0 ≤ x → crcL s (b.set k x) = crcL s b → b[k]'hk = x := by
  induction b with
  | nil => intro s k x hk; simp at hk
  | cons c b ih =>
    intro s k x hk hb hx h
    cases k with
    | zero =>
      rw [List.set_cons_zero, crcL_cons, crcL_cons] at h
      have h := crcL_inj b h
      exact (crcB_byte hx (hb c List.mem_cons_self).1 h).symm
    | succ k =>
      rw [List.set_cons_succ, crcL_cons, crcL_cons] at h
      rw [List.getElem_cons_succ]
      exact ih (crcB s c) k x (by simpa using hk) (fun y hy => hb y (List.mem_cons_of_mem _ hy)) hx h
/-- A byte turned turns the sum. -/
theorem sumN_set {b : List Int} {k : Nat} {x : Int} (hk : k < b.length) (hb : Byt b) (hx : 0 ≤ x) (h : sumN (b.set k x) = sumN b) : b[k] = x := crcL_set b _ k x hk hb hx (xor_can h)
theorem crcL_take_succ (s : Nat) (b : List Int) (i : Nat) (hi : i < b.length) : crcL s (b.take (i + 1)) = crcB (crcL s (b.take i)) b[i] := by
  unfold crcL
  rw [List.take_succ_eq_append_getElem hi, List.foldl_append, List.foldl_cons, List.foldl_nil]
theorem crcK_succ (k s : Nat) : crcK (k + 1) s = crc1 (crcK k s) := by
  induction k generalizing s with
  | zero => rfl
  | succ k ih => rw [crcK_one, ih, crcK_one]
/-- The four bytes of a sum. -/
def footL (s : Nat) : List Int := [((s / 16777216 : Nat) : Int) % 256, ((s / 65536 : Nat) : Int) % 256, ((s / 256 : Nat) : Int) % 256, (s : Int) % 256]
theorem footL_byt (s : Nat) : Byt (footL s) := by
  intro x hx
  simp only [footL, List.mem_cons, List.not_mem_nil, or_false] at hx
  rcases hx with rfl | rfl | rfl | rfl <;> omega
theorem footL_inj {s t : Nat} (hs : s < 4294967296) (ht : t < 4294967296) (h : footL s = footL t) : s = t := by
  simp only [footL, List.cons.injEq, and_true] at h
  omega
/-- Bytes behind how many they are, and their sum behind them. -/
def sealL (b : List Int) : List Int := varint b.length ++ b ++ footL (sumN (varint b.length ++ b))
/-- The program's words for a bit more. -/
theorem crc_prog {s : Nat} (h : s < 4294967296) : Go.bits .xor .u32 (((2 * s % 4294967296 : Nat) : Int)) (((79764919 * (s / 2147483648)) % 4294967296 : Nat) : Int) = (crc1 s : Int) := by
  rw [u32_xor_nat _ _ (Nat.mod_lt _ (by decide)) (Nat.mod_lt _ (by decide))]
  unfold crc1
  split
  · have h1 : s / 2147483648 = 0 := by omega
    rw [h1, show (79764919 * 0) % 4294967296 = 0 from rfl, Nat.xor_zero, Nat.mod_eq_of_lt (by omega)]
  · have h1 : s / 2147483648 = 1 := by omega
    have h2 : 2 * s % 4294967296 = 2 * (s - 2147483648) := by omega
    rw [h1, h2]
end Go.Proofs.Ythkpnnbjcendcaa.Pure
end
section
/- seal.Sum, walked. -/
set_option linter.unusedVariables false
set_option linter.unusedSimpArgs false
open Go.RowKit Go.Proofs.Ythkpnnbjcendcaa.X Go.Proofs.Ythkpnnbjcendcaa.Pl Go.Proofs.Ythkpnnbjcendcaa.Sp Go.Proofs.Ythkpnnbjcendcaa.Pure Go.Proofs.YthkpnnbjcendcaaW.PrintWords Go.Proofs.YthkpnnbjcendcaaW.PrintLast Go.Proofs.YthkpnnbjcendcaaW.PrintMore
namespace Go.Proofs.Ythkpnnbjcendcaa.Sc
set_option maxHeartbeats 8000000 in
set_option maxRecDepth 100000 in
theorem sum_calls (A0 : Option Addr) (c0 : Nat) (b : List Int) (w : World) (hr0 : Kd.C (Kd.int .u8) w A0 b.length b) (hby : Byt b) (hl : b.length < 4611686018427387904) :
    Calls Try.prog 107 #[.slice A0 b.length c0] w fun e w' => e = .returned (.int .u32 (sumN b : Int)) ∧ Below w.heap.size w w' := by
  have HB := Aside0.mk (Below.refl w.heap.size w)
  have HR := Aside0.mk hr0
  have HBY := Aside0.mk hby
  have HL := Aside0.mk hl
  clear hr0 hby hl
  go_enter Try.func107, Try.ntmps107
  go_wp2
  go_loopg [3, 5, 6, 9, 18] b.length (fun kq v3 _ _ v9 _ w' => ∃ i s : Nat, v3 = .int .u32 (s : Int) ∧ v9 = .int .i64 (i : Int) ∧ Aside0 (kq + i = b.length ∧ s = crcL 4294967295 (b.take i)) ∧ Aside0 (Below w.heap.size w w'))
  case atStart => exact ⟨0, 4294967295, rfl, rfl, ⟨by omega, by rw [List.take_zero, crcL_nil]⟩, HB⟩
  case round =>
    clear HB
    obtain ⟨i, s, rfl, rfl, HI, HB⟩ := hrel
    by_cases hlt : i < b.length
    · obtain ⟨k1, rfl⟩ : ∃ q, gk = q + 1 := ⟨gk - 1, by have := HI.out.1; omega⟩
      have c1b : decide ((i : Int) < (b.length : Int)) = true := decide_eq_true (by omega)
      have c1n : decide (i < b.length) = true := decide_eq_true hlt
      have hnx : wrap64 ((i : Int) + 1) = ((i + 1 : Nat) : Int) := by have := HL.out; rw [w64 (by omega) (by omega)]; simp
      have hby := HBY.out (b.getD i 0) (by rw [getD_lt _ _ _ hlt]; exact List.getElem_mem _)
      obtain ⟨x, hx⟩ : ∃ x : Nat, b.getD i 0 = (x : Int) := ⟨(b.getD i 0).toNat, by omega⟩
      have hx256 : x < 256 := by omega
      obtain ⟨ad, e1, hx0⟩ := Kd.at_int HR.out (i : Int) (by omega) (by omega)
      cases e1
      rw [Int.toNat_natCast, rd_get, hx] at hx0
      replace hx0 := (HB.out.cell (World.block_lt_of_cell? w _ hx0)).trans hx0
      have hs := crcL_lt (b := b.take i) (fun y hy => HBY.out y (List.mem_of_mem_take hy)) (s := 4294967295) (by omega)
      rw [← HI.out.2] at hs
      obtain ⟨z, hz⟩ : ∃ z, z = x * 16777216 := ⟨_, rfl⟩
      obtain ⟨y, hy⟩ : ∃ y, y = s ^^^ z := ⟨_, rfl⟩
      have f0 : IntKind.u32.wrap (x : Int) = (x : Int) := by rw [IntKind.wrap_u32']; omega
      have f1 : IntKind.u32.wrap ((x : Int) * 2 ^ 24) = (z : Int) := by rw [IntKind.wrap_u32']; omega
      have f1b : IntKind.u32.wrap ((x : Int) * 16777216) = (z : Int) := by rw [IntKind.wrap_u32']; omega
      have f1c : (x : Int) * 16777216 % 4294967296 = (z : Int) := by omega
      have f1d : (x : Int) % 4294967296 = (x : Int) := by omega
      have f2 : Go.bits .xor .u32 (s : Int) (z : Int) = (y : Int) := by rw [u32_xor_nat _ _ hs (by omega), hy]
      have hbi : b[i] = (x : Int) := by rw [← hx, getD_lt _ _ _ hlt]
      have HY := Aside0.mk (show crcK 8 y = crcL 4294967295 (b.take (i + 1)) by
        rw [crcL_take_succ _ _ _ hlt, ← HI.out.2, hbi]
        unfold crcB
        rw [Int.toNat_natCast, ← hz, ← hy])
      have HYL := Aside0.mk (show y < 4294967296 from hy ▸ Nat.xor_lt_two_pow (n := 32) hs (by omega))
      have HX := Aside0.mk hnx
      have HLT := Aside0.mk hlt
      have c4 := eq_true hlt
      have c5 := eq_true (show (i : Int) < (b.length : Int) by omega)
      have c6 := eq_true (show 0 ≤ (i : Int) by omega)
      clear hnx hlt hby hx hx256 hs hz hy hbi
      go_wp2
      go_loopg [3, 6, 18] 8 (fun kq v3 _ v18 w' => ∃ k t : Nat, v3 = .int .u32 (t : Int) ∧ v18 = .int .i64 (k : Int) ∧ Aside0 (kq + k = 8 ∧ t = crcK k y) ∧ Aside0 (Below w.heap.size w w'))
      case atStart => exact ⟨0, y, rfl, rfl, ⟨by omega, (crcK_zero y).symm⟩, HB⟩
      case round =>
        clear HB
        obtain ⟨k, t, rfl, rfl, HK, HB⟩ := hrel
        by_cases hk : k < 8
        · obtain ⟨k2, rfl⟩ : ∃ q, gk = q + 1 := ⟨gk - 1, by have := HK.out.1; omega⟩
          have d1b : decide ((k : Int) < 8) = true := decide_eq_true (by omega)
          have d1n : decide (k < 8) = true := decide_eq_true hk
          have hnk : wrap64 ((k : Int) + 1) = ((k + 1 : Nat) : Int) := by rw [w64 (by omega) (by omega)]; simp
          have htl := crcK_lt k HYL.out
          rw [← HK.out.2] at htl
          obtain ⟨a, ha⟩ : ∃ a, a = t / 2147483648 := ⟨_, rfl⟩
          obtain ⟨t2, ht2⟩ : ∃ a, a = 2 * t % 4294967296 := ⟨_, rfl⟩
          obtain ⟨pa, hpa⟩ : ∃ p, p = 79764919 * a % 4294967296 := ⟨_, rfl⟩
          obtain ⟨t', ht'⟩ : ∃ x, x = crc1 t := ⟨_, rfl⟩
          have g1 : (t : Int) / 2 ^ 31 = (a : Int) := by omega
          have g1b : (t : Int) / 2147483648 = (a : Int) := by omega
          have g2 : IntKind.u32.wrap ((t : Int) * 2 ^ 1) = (t2 : Int) := by rw [IntKind.wrap_u32']; omega
          have g2b : IntKind.u32.wrap ((t : Int) * 2) = (t2 : Int) := by rw [IntKind.wrap_u32']; omega
          have g3 : IntKind.u32.wrap (79764919 * (a : Int)) = (pa : Int) := by rw [IntKind.wrap_u32']; omega
          have g4 : Go.bits .xor .u32 (t2 : Int) (pa : Int) = (t' : Int) := by
            have := crc_prog htl
            rw [← ha, ← hpa, ← ht2, ← ht'] at this
            exact this
          have HN := Aside0.mk (show t' = crcK (k + 1) y by rw [crcK_succ, ← HK.out.2, ht'])
          have HXK := Aside0.mk hnk
          clear hnk hk htl ha ht2 hpa ht'
          go_wp2
          go_roundg k2
          case measure => omega
          case rel => exact ⟨k + 1, t', rfl, (by first | rfl | rw [HXK.out]), ⟨by have := HK.out.1; omega, HN.out⟩, HB⟩
        · have d1b : decide ((k : Int) < 8) = false := decide_eq_false (by omega)
          have d1n : decide (k < 8) = false := decide_eq_false hk
          have hk8 : k = 8 := by have := HK.out.1; omega
          have HN := Aside0.mk (show t = crcL 4294967295 (b.take (i + 1)) by rw [HK.out.2, hk8]; exact HY.out)
          clear hk hk8
          go_wp2
          go_roundg k1
          case measure => omega
          case rel => exact ⟨i + 1, t, rfl, (by first | rfl | rw [HX.out]), ⟨by have := HI.out.1; omega, HN.out⟩, HB⟩
    · have c1b : decide ((i : Int) < (b.length : Int)) = false := decide_eq_false (by omega)
      have c1n : decide (i < b.length) = false := decide_eq_false hlt
      have hs := crcL_lt (b := b.take i) (fun y hy => HBY.out y (List.mem_of_mem_take hy)) (s := 4294967295) (by omega)
      rw [← HI.out.2] at hs
      obtain ⟨r, hr⟩ : ∃ r, r = s ^^^ 4294967295 := ⟨_, rfl⟩
      have HE := Aside0.mk (show sumN b = r by
        unfold sumN
        rw [hr, HI.out.2, List.take_of_length_le (by omega)])
      have f2 : Go.bits .xor .u32 (s : Int) 4294967295 = (r : Int) := by
        have := u32_xor_nat s 4294967295 hs (by omega)
        rw [hr]
        exact this
      have f3 : Go.bits .xor .u32 4294967295 (s : Int) = (r : Int) := by
        have := u32_xor_nat 4294967295 s (by omega) hs
        rw [hr, Nat.xor_comm]
        exact this
      have f5 : Go.bits .xor .u32 IntKind.u32.max (s : Int) = (r : Int) := by rw [show IntKind.u32.max = (4294967295 : Int) from rfl]; exact f3
      clear hlt hs hr
      go_wp2
      go_ret
      exact ⟨by rw [HE.out]; try rfl, HB.out⟩
end Go.Proofs.Ythkpnnbjcendcaa.Sc
end
section
/- Spt, Bof, Sw4, Ssc, Rpt, put together. -/
section
/- steps.Put, walked. -/
set_option linter.unusedVariables false
set_option linter.unusedSimpArgs false
open Go.RowKit Go.Proofs.Ythkpnnbjcendcaa.X Go.Proofs.Ythkpnnbjcendcaa.Pl Go.Proofs.Ythkpnnbjcendcaa.Sp Go.Proofs.Ythkpnnbjcendcaa.Pure Go.Proofs.YthkpnnbjcendcaaW.PrintWords Go.Proofs.YthkpnnbjcendcaaW.PrintLast Go.Proofs.YthkpnnbjcendcaaW.PrintMore
namespace Go.Proofs.Ythkpnnbjcendcaa.Sc
theorem right_calls (A0 : Option Addr) (c0 : Nat) (l0 : List S52) (w : World) (hr0 : Kd.C k52 w A0 l0.length l0) (hc0 : l0.length ≤ c0) (hl : l0.length < 4611686018427387904) :
    Calls Try.prog 33 #[.slice A0 l0.length c0] w fun e w' => e = .returned (.bool (rightB l0)) ∧ Below w.heap.size w w' := by
  obtain ⟨K, hK⟩ := right_ev l0 hl
  refine (steps_Right.calls K A0 c0 l0 _ w hr0 hc0 (hK K (Nat.le_refl _))).mono ?_
  rintro e w' ⟨rfl, hd⟩
  exact ⟨rfl, hd.below⟩
set_option maxHeartbeats 8000000 in
set_option maxRecDepth 100000 in
theorem sput_calls (A0 : Option Addr) (c0 : Nat) (l0 : List S52) (w : World) (hr0 : Kd.C k52 w A0 l0.length l0) (hc0 : l0.length ≤ c0) (hl : l0.length < 4611686018427387904) (hf : fitP l0) :
    Calls Try.prog 29 #[.slice A0 l0.length c0] w fun e w' => ∃ v, e = .returned (.tuple #[v, .int .i64 (putR l0).2]) ∧ Kd.R (Kd.int .u8) 5 w' w.heap.size (fun _ => True) v (putR l0).1 ∧ Below w.heap.size w w' := by
  have HB := Aside0.mk (Below.refl w.heap.size w)
  have HS := Aside0.mk (Sep.nil w.heap.size w)
  have HR := Aside0.mk hr0
  have HC := Aside0.mk hc0
  have HL := Aside0.mk hl
  have HF := Aside0.mk hf
  clear hr0 hc0 hl hf
  by_cases h1 : l0.length > 1024
  · have h1b : decide (1024 < (l0.length : Int)) = true := decide_eq_true (by omega)
    have h1n : decide (1024 < l0.length) = true := decide_eq_true h1
    have HE := Aside0.mk (show putR l0 = ([], 3) by unfold putR; rw [if_pos h1])
    clear h1
    go_enter Try.func29, Try.ntmps29
    go_wp2
    go_ret2
    refine ⟨.slice none 0 0, by rw [HE.out]; rfl, ?_, (by repeat (first | (with_reducible first | exact HB.out | apply below_alloc | apply pw_below_drewN | apply below_drew1) | exact HB.out))⟩
    rw [HE.out]
    exact Kd.R_nil _ _ _ _ _
  · have h1b : decide (1024 < (l0.length : Int)) = false := decide_eq_false (by omega)
    have h1n : decide (1024 < l0.length) = false := decide_eq_false h1
    have H1 := Aside0.mk h1
    by_cases h2 : rightB l0 = false
    · have HE := Aside0.mk (show putR l0 = ([], 1) by unfold putR; rw [if_neg h1, if_pos h2])
      clear h1
      go_enter Try.func29, Try.ntmps29
      go_wp2_with (first
        | (go_at_call 33; (with_reducible refine (right_calls A0 c0 l0 _ HR.out HC.out HL.out).mono ?_); rintro e w1 ⟨rfl, hb⟩; have n0_ := Aside0.mk (below_step (by repeat (first | (with_reducible first | exact HB.out | apply below_alloc | apply pw_below_drewN | apply below_drew1) | exact HB.out)) hb); have n1_ := Aside0.mk (Sep.below (by repeat (first | (with_reducible first | exact HS.out | apply sep_alloc | apply sep_drewN | apply sep_drew) | exact HS.out)) hb); clear HB HS; have HB := n0_; have HS := n1_; clear n0_ n1_ hb))
      go_ret2
      refine ⟨.slice none 0 0, by rw [HE.out]; rfl, ?_, (by repeat (first | (with_reducible first | exact HB.out | apply below_alloc | apply pw_below_drewN | apply below_drew1) | exact HB.out))⟩
      rw [HE.out]
      exact Kd.R_nil _ _ _ _ _
    · have HE := Aside0.mk (show putR l0 = (putB l0, 0) by unfold putR; rw [if_neg h1, if_neg h2])
      have h2t : rightB l0 = true := by simpa using h2
      have hcv : IntKind.u64.wrap (l0.length : Int) = (l0.length : Int) := w_u64 (by omega) (by omega)
      clear h1 h2
      go_enter Try.func29, Try.ntmps29
      go_wp2_with (first
        | (go_at_call 33; (with_reducible refine (right_calls A0 c0 l0 _ HR.out HC.out HL.out).mono ?_); rintro e w1 ⟨rfl, hb⟩; have n0_ := Aside0.mk (below_step (by repeat (first | (with_reducible first | exact HB.out | apply below_alloc | apply pw_below_drewN | apply below_drew1) | exact HB.out)) hb); have n1_ := Aside0.mk (Sep.below (by repeat (first | (with_reducible first | exact HS.out | apply sep_alloc | apply sep_drewN | apply sep_drew) | exact HS.out)) hb); clear HB HS; have HB := n0_; have HS := n1_; clear n0_ n1_ hb)
        | ((with_reducible refine gate_dst (N := 4) rfl ?_); (try (refine gate_guard (by rfl) ?_; dsimp only)); refine box_event ?hg (N := 4) ?hd (cs := #[.slice none 0 0, .int .i64 0]) (t := 26) ?hr ?_; (case hd => rfl); (case hg => rfl); (case hr => first | (go_simp; done) | (go_simp; rfl)); intro g hg w3 hbox hb; obtain ⟨F0, hs0⟩ := Sep.newbits (by repeat (first | (with_reducible first | exact HS.out | apply sep_alloc | apply sep_drewN | apply sep_drew) | exact HS.out)) hb (Nat.le_of_eq hg.symm) (below_size (by repeat (first | (with_reducible first | exact HB.out | apply below_alloc | apply pw_below_drewN | apply below_drew1) | exact HB.out))) hbox; have n0_ := Aside0.mk (below_step (by repeat (first | (with_reducible first | exact HB.out | apply below_alloc | apply pw_below_drewN | apply below_drew1) | exact HB.out)) hb); clear HB HS hg hbox hb; have HB := n0_; have HS := Aside0.mk hs0; clear n0_ hs0)
        | ((with_reducible refine gate_dst (N := 5) rfl ?_); (try (refine gate_guard (by rfl) ?_; dsimp only)); refine box_event ?hg (N := 5) ?hd (cs := #[.int .i64 0, .int .i64 0]) (t := 87) ?hr ?_; (case hd => rfl); (case hg => rfl); (case hr => first | (go_simp; done) | (go_simp; rfl)); intro gt hg w4 hbox hb; have n0_ := Aside0.mk (below_step (by repeat (first | (with_reducible first | exact HB.out | apply below_alloc | apply pw_below_drewN | apply below_drew1) | exact HB.out)) hb); have n1_ := Aside0.mk (Sep.newbox (by repeat (first | (with_reducible first | exact HS.out | apply sep_alloc | apply sep_drewN | apply sep_drew) | exact HS.out)) hb (Nat.le_of_eq hg.symm) (below_size (by repeat (first | (with_reducible first | exact HB.out | apply below_alloc | apply pw_below_drewN | apply below_drew1) | exact HB.out))) hbox); clear HB HS; have HB := n0_; have HS := n1_; clear n0_ n1_ hb hbox hg)
        | ((with_reducible refine gate_dst (N := 6) rfl ?_); (try (refine gate_guard (by rfl) ?_; dsimp only)); refine box_event ?hg (N := 6) ?hd (cs := #[.int .i64 0, .int .i64 0]) (t := 87) ?hr ?_; (case hd => rfl); (case hg => rfl); (case hr => first | (go_simp; done) | (go_simp; rfl)); intro gv hg w5 hbox hb; have n0_ := Aside0.mk (below_step (by repeat (first | (with_reducible first | exact HB.out | apply below_alloc | apply pw_below_drewN | apply below_drew1) | exact HB.out)) hb); have n1_ := Aside0.mk (Sep.newbox (by repeat (first | (with_reducible first | exact HS.out | apply sep_alloc | apply sep_drewN | apply sep_drew) | exact HS.out)) hb (Nat.le_of_eq hg.symm) (below_size (by repeat (first | (with_reducible first | exact HB.out | apply below_alloc | apply pw_below_drewN | apply below_drew1) | exact HB.out))) hbox); clear HB HS; have HB := n0_; have HS := n1_; clear n0_ n1_ hb hbox hg))
      go_loopg [19] l0.length (fun kq v19 w' => ∃ (j : Nat) (a b c d : Int) (L : List Bool) (F : Nat → Prop), v19 = .int .i64 (j : Int) ∧ Aside0 (kq + j = l0.length ∧ L.length ≤ 136 * j ∧ L ++ marksP a b c d (l0.drop j) = marksP 0 0 0 0 l0) ∧ Aside0 (Sep w.heap.size w' [pairR gv c d, pairR gt a b, bitsR w.heap.size g L F]) ∧ Aside0 (Below w.heap.size w w'))
      case atStart => exact ⟨0, 0, 0, 0, 0, [], F0, rfl, ⟨by omega, by simp, by simp⟩, HS, HB⟩
      case round =>
        clear HS HB
        obtain ⟨j, a, b, c, d, L, F, rfl, HI, HS, HB⟩ := hrel
        by_cases hlt : j < l0.length
        · obtain ⟨k1, rfl⟩ : ∃ m, gk = m + 1 := ⟨gk - 1, by have := HI.out; omega⟩
          have c1b : decide ((j : Int) < (l0.length : Int)) = true := decide_eq_true (by omega)
          have c1n : decide (j < l0.length) = true := decide_eq_true hlt
          have hnx : wrap64 ((j : Int) + 1) = ((j + 1 : Nat) : Int) := by have := H1.out; rw [w64 (by omega) (by omega)]; simp
          obtain ⟨ad, e1, hx0, hx1⟩ := at_T52 HR.out (j : Int) (by omega) (by omega)
          cases e1
          rw [Int.toNat_natCast] at hx0 hx1
          replace hx0 := (HB.out.cell (World.block_lt_of_cell? w _ hx0)).trans hx0
          replace hx1 := (HB.out.cell (World.block_lt_of_cell? w _ hx1)).trans hx1
          have hdr := drop52 hlt
          have hfp := HF.out _ (rd52_mem hlt)
          obtain ⟨p, hp⟩ : ∃ p, p = rd_T52 l0 (j : Int) := ⟨_, rfl⟩
          rw [← hp] at hx0 hx1 hdr hfp
          obtain ⟨p0, hp0⟩ : ∃ x, x = p.f0 := ⟨_, rfl⟩
          obtain ⟨p1, hp1⟩ : ∃ x, x = p.f1 := ⟨_, rfl⟩
          rw [← hp0] at hx0
          rw [← hp1] at hx1
          have HP0 := Aside0.mk hp0
          have HP1 := Aside0.mk hp1
          have HDR := Aside0.mk hdr
          have HX := Aside0.mk hnx
          have HLL := Aside0.mk (show L.length + 136 ≤ 262144 by have := HI.out; have := H1.out; omega)
          have c4 := eq_true hlt
          have c5 := eq_true (show (j : Int) < (l0.length : Int) by omega)
          have c6 := eq_true (show 0 ≤ (j : Int) by omega)
          obtain ⟨s0, hs0⟩ : ∃ s, wrap64 (wrap64 (p0 - a) - b) = s := ⟨_, rfl⟩
          obtain ⟨s1, hs1⟩ : ∃ s, wrap64 (wrap64 (p1 - c) - d) = s := ⟨_, rfl⟩
          have HS0 := Aside0.mk hs0
          have HS1 := Aside0.mk hs1
          have HF0 := Aside0.mk (show fits64 s0 from hs0 ▸ fits_wrap _)
          have HF1 := Aside0.mk (show fits64 s1 from hs1 ▸ fits_wrap _)
          clear hnx hlt hdr hfp hp hp0 hp1 hs0 hs1
          go_wp2_with (first
            | ((with_reducible refine gate_dst (N := 8) rfl ?_); (try (refine gate_guard (by rfl) ?_; dsimp only)); refine box_event ?hg (N := 8) ?hd (cs := #[.int .i64 0, .int .i64 0]) (t := 52) ?hr ?_; (case hd => rfl); (case hg => rfl); (case hr => first | (go_simp; done) | (go_simp; rfl)); intro gq hg w5 hbox hb; have n0_ := Aside0.mk (below_step (by repeat (first | (with_reducible first | exact HB.out | apply below_alloc | apply pw_below_drewN | apply below_drew1) | exact HB.out)) hb); have n1_ := Aside0.mk (Sep.newbox (by repeat (first | (with_reducible first | exact HS.out | apply sep_alloc | apply sep_drewN | apply sep_drew) | exact HS.out)) hb (Nat.le_of_eq hg.symm) (below_size (by repeat (first | (with_reducible first | exact HB.out | apply below_alloc | apply pw_below_drewN | apply below_drew1) | exact HB.out))) hbox); clear HB HS; have HB := n0_; have HS := n1_; clear n0_ n1_ hb hbox hg; have hc0 := Sep.c20 HS.out; have hc1 := Sep.c21 HS.out; have hf0 := Sep.free HS.out 0; have hf1 := Sep.free HS.out 1)
            | ((with_reducible refine gate_dst (N := 25) rfl ?_); (try (refine gate_guard (by rfl) ?_; dsimp only)); refine goesL_ (some 25) rfl rfl Try.func64 (by kernel_rfl) rfl #[.pointer (some ⟨gt, 0, none⟩), .int .i64 p0] rfl (by (try simp only [List.map_toArray, List.map_cons, List.map_nil]); first | done | rfl) ?_; (with_reducible refine (next_calls gt a b p0 w _ (below_set (below_set HB.out HS.out.ge (j := 0) (v := .int .i64 p0)) HS.out.ge (j := 1) (v := .int .i64 p1)) (Sep.own (Sep.p3 ((HS.out.s20 (.int .i64 p0)).s21 (.int .i64 p1))))).mono ?_); rintro e w6 ⟨rfl, ht⟩; refine ⟨_, rfl, ?_⟩; rw [HS0.out]; obtain ⟨F_, hs_⟩ := Turned.sep ht (Sep.p3 ((HS.out.s20 (.int .i64 p0)).s21 (.int .i64 p1))) rfl; have n0_ := Aside0.mk (Turned.below ht); clear HB HS ht; have HB := n0_; have HS := Aside0.mk hs_; clear n0_ hs_; clear hc0 hc1 hf0 hf1; have hc1 := Sep.c21 HS.out.p2)
            | ((with_reducible refine gate_dst (N := 26) rfl ?_); (try (refine gate_guard (by rfl) ?_; dsimp only)); refine goesL_ (some 26) rfl rfl Try.func63 (by kernel_rfl) rfl #[.pointer (some ⟨g, 0, none⟩), .int .i64 s0] rfl (by (try simp only [List.map_toArray, List.map_cons, List.map_nil]); first | done | rfl) ?_; (with_reducible refine (mark_calls g F L s0 w _ HB.out HS.out.p4.own HF0.out (by have := HLL.out; omega)).mono ?_); rintro e w7 ⟨rfl, ht⟩; refine ⟨_, rfl, ?_⟩; obtain ⟨F2, hs_⟩ := Turned.sep ht (HS.out.p4) rfl; have n0_ := Aside0.mk (Turned.below ht); clear HB HS ht; have HB := n0_; have HS := Aside0.mk hs_; clear n0_ hs_; clear hc1; have hc1 := Sep.c21 HS.out.p3)
            | ((with_reducible refine gate_dst (N := 29) rfl ?_); (try (refine gate_guard (by rfl) ?_; dsimp only)); refine goesL_ (some 29) rfl rfl Try.func64 (by kernel_rfl) rfl #[.pointer (some ⟨gv, 0, none⟩), .int .i64 p1] rfl (by (try simp only [List.map_toArray, List.map_cons, List.map_nil]); first | done | rfl) ?_; (with_reducible refine (next_calls gv c d p1 w _ HB.out HS.out.p4.own).mono ?_); rintro e w8 ⟨rfl, ht⟩; refine ⟨_, rfl, ?_⟩; rw [HS1.out]; obtain ⟨F_, hs_⟩ := Turned.sep ht (HS.out.p4) rfl; have n0_ := Aside0.mk (Turned.below ht); clear HB HS ht; have HB := n0_; have HS := Aside0.mk hs_; clear n0_ hs_; clear hc1)
            | ((with_reducible refine gate_dst (N := 30) rfl ?_); (try (refine gate_guard (by rfl) ?_; dsimp only)); refine goesL_ (some 30) rfl rfl Try.func63 (by kernel_rfl) rfl #[.pointer (some ⟨g, 0, none⟩), .int .i64 s1] rfl (by (try simp only [List.map_toArray, List.map_cons, List.map_nil]); first | done | rfl) ?_; (with_reducible refine (mark_calls g F2 (L ++ markB s0) s1 w _ HB.out HS.out.p2.own HF1.out (by have := HLL.out; have := markB_length s0; rw [List.length_append]; omega)).mono ?_); rintro e w9 ⟨rfl, ht⟩; refine ⟨_, rfl, ?_⟩; obtain ⟨F3, hs_⟩ := Turned.sep ht (HS.out.p2) rfl; have n0_ := Aside0.mk (Turned.below ht); clear HB HS ht; have HB := n0_; have HS := Aside0.mk hs_; clear n0_ hs_))
          go_roundg k1
          case measure => omega
          case rel => exact ⟨j + 1, p0, wrap64 (p0 - a), p1, wrap64 (p1 - c), L ++ markB s0 ++ markB s1, F3, (by first | rfl | rw [HX.out]), ⟨by have := HI.out; omega, by
            have h1 := markB_length s0
            have h2 := markB_length s1
            have := HI.out
            rw [List.length_append, List.length_append]; omega, by
            rw [← HI.out.2.2, HDR.out, marksP_cons, ← HP0.out, ← HP1.out, HS0.out, HS1.out]
            simp only [List.append_assoc]⟩, ⟨(HS.out.p3.p3).drop4.p3.p3.p3 |> fun h => h.p2 |> fun h => h.p2⟩, HB⟩
        · have c1b : decide ((j : Int) < (l0.length : Int)) = false := decide_eq_false (by omega)
          have c1n : decide (j < l0.length) = false := decide_eq_false hlt
          have hL : L = marksP 0 0 0 0 l0 := by
            have := HI.out.2.2
            rw [List.drop_of_length_le (by omega), marksP_nil, List.append_nil] at this
            exact this
          have HLM := Aside0.mk hL
          have HLN := Aside0.mk (show L.length ≤ 262144 by have := HI.out; have := H1.out; omega)
          have hm : 1 ≤ (varint l0.length).length ∧ (varint l0.length).length ≤ 10 := varint_le 9 _ (by have := H1.out; omega)
          have HVL := Aside0.mk hm
          clear hlt hL hm
          go_wp2_with (first
            | ((with_reducible refine gate_dst (N := 35) rfl ?_); (try (refine gate_guard (by rfl) ?_; dsimp only)); refine goesL_ (some 35) rfl rfl Try.func65 (by kernel_rfl) rfl #[.slice none 0 0, .int .u64 (l0.length : Int)] rfl (by (try simp only [List.map_toArray, List.map_cons, List.map_nil]); first | done | rfl) ?_; (with_reducible refine (oput_nil l0.length _ (by have := H1.out; omega)).mono ?_); rintro e w8 ⟨v, rfl, ho, hb⟩; refine ⟨_, rfl, ?_⟩; obtain ⟨A3, c3, e_⟩ := Kd.R_slice ho; subst e_; obtain ⟨F3, hs_⟩ := Sep.newrow (by repeat (first | (with_reducible first | exact HS.out | apply sep_alloc | apply sep_drewN | apply sep_drew) | exact HS.out)) hb (below_size (by repeat (first | (with_reducible first | exact HB.out | apply below_alloc | apply pw_below_drewN | apply below_drew1) | exact HB.out))) ho; have n0_ := Aside0.mk (below_step (by repeat (first | (with_reducible first | exact HB.out | apply below_alloc | apply pw_below_drewN | apply below_drew1) | exact HB.out)) hb); clear HB HS hb ho; have HB := n0_; have HS := Aside0.mk hs_; clear n0_ hs_)
            | ((with_reducible refine gate_dst (N := 36) rfl ?_); (try (refine gate_guard (by rfl) ?_; dsimp only)); refine goesL_ (some 36) rfl rfl Try.func25 (by kernel_rfl) rfl #[.pointer (some ⟨g, 0, none⟩)] rfl (by (try simp only [List.map_toArray, List.map_cons, List.map_nil]); first | done | rfl) ?_; (with_reducible refine (bytes_calls w.heap.size g F L _ HS.out.p4.own).mono ?_); rintro e w9 ⟨v, rfl, ho, hb⟩; refine ⟨_, rfl, ?_⟩; obtain ⟨A4, c4, e_⟩ := Kd.R_slice ho; subst e_; obtain ⟨F4, hs_⟩ := Sep.newrow (by repeat (first | (with_reducible first | exact HS.out | apply sep_alloc | apply sep_drewN | apply sep_drew) | exact HS.out)) hb (below_size (by repeat (first | (with_reducible first | exact HB.out | apply below_alloc | apply pw_below_drewN | apply below_drew1) | exact HB.out))) ho; have n0_ := Aside0.mk (below_step (by repeat (first | (with_reducible first | exact HB.out | apply below_alloc | apply pw_below_drewN | apply below_drew1) | exact HB.out)) hb); clear HB HS hb ho; have HB := n0_; have HS := Aside0.mk hs_; clear n0_ hs_)
            | ((with_reducible refine gate_builtin (b := .append) (xs := #[.tmp 35, .tmp 36]) rfl ?_); (refine wp_append_row (Kd.int .u8) (w0 := w) rfl (.tmp 35) (.tmp 36) 24 5 (.int .u8 0) 1 rfl Try.underlying24 info5 rfl (by decide) (by omega) (pack L) _ _ _ HS.out.p2 (Kd.R_reads' (Sep.R HS.out)).2.2 (fun _ _ h => h) (by repeat (first | (with_reducible first | exact HB.out | apply below_alloc | apply pw_below_drewN | apply below_drew1) | exact HB.out)) (by have := HVL.out; have := HLN.out; rw [pack_length]; omega) rfl rfl ?_); (intro v_ w_ F_ hs_ hb_); (obtain ⟨O1, hy_⟩ : ∃ y_, y_ = (varint l0.length) ++ (pack L) := ⟨_, rfl⟩; rw [← hy_] at hs_; have HO1 := Aside0.mk hy_; clear hy_ HB HS; have HB := Aside0.mk hb_; have HS := Aside0.mk hs_; clear hs_ hb_; obtain ⟨A_, c_, e_⟩ := Kd.R_slice (Sep.R HS.out); subst e_); (skip)))
          go_ret2
          refine ⟨_, by rw [HE.out]; rfl, ?_, HB.out⟩
          rw [HE.out]
          show Kd.R _ _ _ _ _ _ (putB l0)
          have : O1 = putB l0 := by rw [HO1.out, HLM.out]; rfl
          rw [← this]
          exact Kd.R_mono (Sep.R HS.out) (fun _ _ => trivial)
end Go.Proofs.Ythkpnnbjcendcaa.Sc
end
end
section
/- The reference's Right of chunks, walked. -/
set_option linter.unusedVariables false
set_option linter.unusedSimpArgs false
open Go.RowKit Go.Proofs.Ythkpnnbjcendcaa.X Go.Proofs.Ythkpnnbjcendcaa.Pl Go.Proofs.Ythkpnnbjcendcaa.Sp Go.Proofs.Ythkpnnbjcendcaa.Pure Go.Proofs.YthkpnnbjcendcaaW.PrintWords Go.Proofs.YthkpnnbjcendcaaW.PrintLast Go.Proofs.YthkpnnbjcendcaaW.PrintMore
namespace Go.Proofs.Ythkpnnbjcendcaa.Pure
/-- Chunks whose ids rise from behind p on, each with points that rise. -/
def okCs : Int → List S109 → Bool
  | _, [] => true
  | p, c :: l => decide (p < c.f0) && decide (c.f0 < 4096) && decide (1 ≤ c.f1.length) && decide (c.f1.length ≤ 1024) && rightB c.f1 && okCs c.f0 l
/-- Whether chunks make a block. -/
def rightC (l : List S109) : Bool := okCs (-1) l && decide (1 ≤ l.length) && decide (l.length ≤ 200)
theorem rd109_at (l : List S109) (i : Nat) (h : i < l.length) : rd_T109 l (i : Int) = l[i] := by
  unfold rd_T109; rw [Int.toNat_natCast]; exact getD_lt l i _ h
theorem okCs_step {p : Int} {l : List S109} {i : Nat} (h : i < l.length) : okCs p (l.drop i) = (decide (p < l[i].f0) && decide (l[i].f0 < 4096) && decide (1 ≤ l[i].f1.length) && decide (l[i].f1.length ≤ 1024) && rightB l[i].f1 && okCs l[i].f0 (l.drop (i + 1))) := by
  rw [List.drop_eq_getElem_cons h, okCs]
end Go.Proofs.Ythkpnnbjcendcaa.Pure
namespace Go.Proofs.Ythkpnnbjcendcaa.Sc
end Go.Proofs.Ythkpnnbjcendcaa.Sc
end
section
/- Contracts in the print's own form, for what the print does not tell: octs.Put, seal.Sum, Put of points (both), the reference's Right of chunks. -/
set_option linter.unusedVariables false
open Go.RowKit Go.Proofs.Ythkpnnbjcendcaa.X Go.Proofs.Ythkpnnbjcendcaa.Pl Go.Proofs.Ythkpnnbjcendcaa.Sp Go.Proofs.Ythkpnnbjcendcaa.Pure Go.Proofs.YthkpnnbjcendcaaW.PrintWords Go.Proofs.YthkpnnbjcendcaaW.PrintLast Go.Proofs.YthkpnnbjcendcaaW.PrintMore
namespace Go.Proofs.Ythkpnnbjcendcaa.X
def octs_Put.f (l0 : List Int) (a1 : Int) : Option (List Int) := if l0.length ≤ 100000000 ∧ 0 ≤ a1 ∧ a1 < 18446744073709551616 then some (l0 ++ varint a1.toNat) else none
theorem octs_Put.calls (A0 : Option Addr) (c0 : Nat) (l0 : List Int) (a1 : Int) (r : List Int) (w : World) (hr0 : Kd.C (Kd.int .u8) w A0 l0.length l0) (hc0 : l0.length ≤ c0) (h : octs_Put.f l0 a1 = some r) :
    Calls Try.prog 65 #[.slice A0 l0.length c0, .int .u64 a1] w fun e w' => ∃ v0_ : Value, e = .returned (v0_) ∧ Kd.R (Kd.int .u8) 5 w' w.heap.size (fun _ => True) v0_ r ∧ Below w.heap.size w w' := by
  unfold octs_Put.f at h
  split at h
  case isFalse => cases h
  case isTrue hfit =>
  obtain rfl := Option.some.inj h
  obtain ⟨h1, h2, h3⟩ := hfit
  obtain ⟨n, rfl⟩ : ∃ n : Nat, a1 = (n : Int) := ⟨a1.toNat, by omega⟩
  rw [Int.toNat_natCast]
  exact Sc.oput_calls A0 c0 l0 n w hr0 h1 (by omega)
def bytB (l : List Int) : Bool := l.all fun x => decide (0 ≤ x) && decide (x ≤ 255)
theorem bytB_iff (l : List Int) : bytB l = true ↔ Byt l := by
  unfold bytB Byt
  rw [List.all_eq_true]
  simp only [Bool.and_eq_true, decide_eq_true_eq]
def seal_Sum.f (l0 : List Int) : Option Int := if l0.length < 4611686018427387904 ∧ bytB l0 = true then some (sumN l0 : Int) else none
theorem seal_Sum.calls (A0 : Option Addr) (c0 : Nat) (l0 : List Int) (r : Int) (w : World) (hr0 : Kd.C (Kd.int .u8) w A0 l0.length l0) (hc0 : l0.length ≤ c0) (h : seal_Sum.f l0 = some r) :
    Calls Try.prog 107 #[.slice A0 l0.length c0] w fun e w' => e = .returned (.int .u32 r) ∧ Below w.heap.size w w' := by
  unfold seal_Sum.f at h
  split at h
  case isFalse => cases h
  case isTrue hfit =>
  obtain rfl := Option.some.inj h
  exact Sc.sum_calls A0 c0 l0 w hr0 ((bytB_iff l0).1 hfit.2) hfit.1
def fitB (l : List S52) : Bool := l.all fun y => decide (-9223372036854775808 ≤ y.f0) && decide (y.f0 ≤ 9223372036854775807) && (decide (-9223372036854775808 ≤ y.f1) && decide (y.f1 ≤ 9223372036854775807))
theorem fitB_iff (l : List S52) : fitB l = true ↔ fitP l := by
  unfold fitB fitP fits64
  rw [List.all_eq_true]
  simp only [Bool.and_eq_true, decide_eq_true_eq]
end Go.Proofs.Ythkpnnbjcendcaa.X
end
section
-- By xprint.py, out of the translation's own print. Lean checks it.
namespace Go.Proofs.Ythkpnnbjcendcaa.X
open Go.RowKit Go.Proofs.YthkpnnbjcendcaaW.PrintWords Go.Proofs.YthkpnnbjcendcaaW.PrintLast Go.Proofs.YthkpnnbjcendcaaW.PrintMore
attribute [local go_sem] max2_int min2_int max_two min_two max_three min_three max_four min_four   -- for this text's walks alone
set_option linter.unusedVariables false
set_option linter.unusedSimpArgs false

/-! ### block_Right: function 55 -/
def block_Right.l0 : Nat → List (S109) → Int → List (S109) → Int → Int → Option (Bool)
  | 0, _, _, _, _, _ => none
  | k + 1, x0, x3, x6, x7, x8 => if x8 < x7 then (if 0 ≤ x8 then (if x8 < (x6.length : Int) then (if ((rd_T109 x6 x8).f0) ≤ x3 then (some false) else (if ((rd_T109 x6 x8).f0) ≥ 4096 then (some false) else (if (((rd_T109 x6 x8).f1).length : Int) = 0 then (some false) else (if (((rd_T109 x6 x8).f1).length : Int) > 1024 then (some false) else ((steps_Right.f k ((rd_T109 x6 x8).f1)).bind fun t336 => (if t336 = true then (block_Right.l0 k x0 ((rd_T109 x6 x8).f0) x6 x7 (wrap64 (x8 + 1))) else (some false))))))) else (none)) else (none)) else (if (x0.length : Int) > 0 then (some (decide ((x0.length : Int) ≤ 200))) else (some false))
def block_Right.f (k : Nat) (l0 : List (S109)) : Option (Bool) := block_Right.l0 k l0 (-1) l0 (l0.length : Int) 0
set_option maxHeartbeats 8000000 in
set_option maxRecDepth 100000 in
theorem block_Right.calls (k : Nat) (A0 : Option Addr) (c0 : Nat) (l0 : List (S109)) (r : Bool) (w : World) (hr0 : Kd.C k109 w A0 l0.length l0) (hc0 : l0.length ≤ c0) (h : block_Right.f k l0 = some r) :
    Calls Try.prog 55 #[.slice A0 l0.length c0] w fun e w' => e = .returned (.bool r) ∧ Below w.heap.size w w' := by
  have hu109 := Try.underlying109
  have HR0 := Aside0.mk hr0
  have HC0 := Aside0.mk hc0
  clear hr0 hc0
  have HB := Aside0.mk (Below.refl w.heap.size w)
  have H : (block_Right.l0 k l0 (-1) l0 (l0.length : Int) 0) = some r := h
  clear h
  have H' := Aside0.mk H
  clear H
  go_enter Try.func55, Try.ntmps55
  go_wp2
  go_loopg [3, 8] k (fun kq v3 v8 w' => ∃ (x3_1 : Int) (x8_1 : Int), v3 = .int .i64 x3_1 ∧ v8 = .int .i64 x8_1 ∧ Aside0 (block_Right.l0 kq l0 x3_1 l0 (l0.length : Int) x8_1 = some r) ∧ Aside0 (kq ≤ k) ∧ Aside0 (Below w.heap.size w w'))
  case atStart => exact ⟨((-1)), (0), (by first | rfl | (simp; done) | (simp [*]; done) | (simp <;> grind)), (by first | rfl | (simp; done) | (simp [*]; done) | (simp <;> grind)), H', ⟨Nat.le_refl _⟩, ⟨by repeat (first | (with_reducible first | exact HB.out | apply below_alloc | apply pw_below_drewN | apply below_drew1) | exact HB.out)⟩⟩
  case round =>
    clear H'
    obtain ⟨x3_1, x8_1, rfl, rfl, HA, HK1, HB⟩ := hrel
    cases gk with
    | zero => exact absurd HA.out (by simp [block_Right.l0])
    | succ k1 =>
      have H := HA.out
      clear HA
      simp only [block_Right.l0] at H
      by_cases c2 : x8_1 < (l0.length : Int)
      · rw [if_pos c2] at H
        have c2b0 : decide (x8_1 < (l0.length : Int)) = true := decide_eq_true c2
        clear c2
        by_cases c3 : 0 ≤ x8_1
        · rw [if_pos c3] at H
          have c3b0 : decide (0 ≤ x8_1) = true := decide_eq_true c3
          clear c3
          by_cases c4 : x8_1 < (l0.length : Int)
          · rw [if_pos c4] at H
            have c4b0 : decide (x8_1 < (l0.length : Int)) = true := decide_eq_true c4
            clear c4
            by_cases c5 : ((rd_T109 l0 x8_1).f0) ≤ x3_1
            · rw [if_pos c5] at H
              have c5b0 : decide (((rd_T109 l0 x8_1).f0) ≤ x3_1) = true := decide_eq_true c5
              clear c5
              obtain rfl := Option.some.inj H
              have p334 : 0 ≤ (x8_1 : Int) := of_decide_eq_true (by first | (with_reducible assumption) | assumption)
              have q334 : x8_1 < (l0.length : Int) := of_decide_eq_true (by first | (with_reducible assumption) | assumption)
              obtain ⟨ad334, A334_1, c334_1, e334, hx334_0, hx334_1, hl334_1, hi334_1⟩ := at_T109 HR0.out x8_1 p334 q334
              cases e334
              replace hx334_0 := (HB.out.cell (World.block_lt_of_cell? w _ hx334_0)).trans hx334_0
              replace hx334_1 := (HB.out.cell (World.block_lt_of_cell? w _ hx334_1)).trans hx334_1
              have HR334_1 := Aside0.mk hi334_1
              have HC334_1 := Aside0.mk hl334_1
              clear hi334_1 hl334_1
              replace p334 := eq_true p334
              replace q334 := eq_true q334
              go_wp2_with (first | ((with_reducible refine gate_dst (N := 5) rfl ?_); refine box_event ?hg (N := 5) ?hd (cs := #[.int .i64 0, .slice none 0 0]) (t := 109) ?hr ?_; (case hd => rfl); (case hg => rfl); (case hr => first | (go_simp; done) | (go_simp; rfl)); intro gb335 hg w6 hbox hb; have n0_ := Aside0.mk (below_step (by repeat (first | (with_reducible first | exact HB.out | apply below_alloc | apply pw_below_drewN | apply below_drew1) | exact HB.out)) hb); have n1_ := Aside0.mk (hbox); have n2_ := Aside0.mk ((by rw [hg]; exact (below_size (by repeat (first | (with_reducible first | exact HB.out | apply below_alloc | apply pw_below_drewN | apply below_drew1) | exact HB.out))) : w.heap.size ≤ gb335)); have n3_ := Aside0.mk ((by rw [hg]; exact (below_size (by repeat (first | (with_reducible first | exact HB.out | apply below_alloc | apply pw_below_drewN | apply below_drew1) | exact HB.out))) : w.heap.size ≤ gb335)); clear HB; have HB := n0_; have BK335 := n1_; have GW335 := n2_; have GE335 := n3_; clear n0_ n1_ n2_ n3_; clear hb hbox hg; have hcz7_0 : w6.cell? ⟨gb335, 0, none⟩ = some (.int .i64 0) := (blk_cell BK335.out 0).trans rfl; have hcz7_1 : w6.cell? ⟨gb335, 1, none⟩ = some (.slice none 0 0) := (blk_cell BK335.out 1).trans rfl; have hfz7_0 := blk_frozen BK335.out 0; have hfz7_1 := blk_frozen BK335.out 1))
              go_ret
              exact ⟨by first | rfl | (simp [errW_none, errW_some] <;> rfl) | (simp [*, errW_none, errW_some] <;> rfl), by repeat (first | (with_reducible first | exact HB.out | apply below_alloc | apply pw_below_drewN | apply below_drew1 | refine below_set ?_ GE335.out) | exact HB.out)⟩
            · rw [if_neg c5] at H
              have c5b0 : decide (((rd_T109 l0 x8_1).f0) ≤ x3_1) = false := decide_eq_false c5
              clear c5
              by_cases c8 : ((rd_T109 l0 x8_1).f0) ≥ 4096
              · rw [if_pos c8] at H
                have c8b0 : decide (4096 ≤ ((rd_T109 l0 x8_1).f0)) = true := decide_eq_true c8
                clear c8
                obtain rfl := Option.some.inj H
                have p334 : 0 ≤ (x8_1 : Int) := of_decide_eq_true (by first | (with_reducible assumption) | assumption)
                have q334 : x8_1 < (l0.length : Int) := of_decide_eq_true (by first | (with_reducible assumption) | assumption)
                obtain ⟨ad334, A334_1, c334_1, e334, hx334_0, hx334_1, hl334_1, hi334_1⟩ := at_T109 HR0.out x8_1 p334 q334
                cases e334
                replace hx334_0 := (HB.out.cell (World.block_lt_of_cell? w _ hx334_0)).trans hx334_0
                replace hx334_1 := (HB.out.cell (World.block_lt_of_cell? w _ hx334_1)).trans hx334_1
                have HR334_1 := Aside0.mk hi334_1
                have HC334_1 := Aside0.mk hl334_1
                clear hi334_1 hl334_1
                replace p334 := eq_true p334
                replace q334 := eq_true q334
                go_wp2_with (first | ((with_reducible refine gate_dst (N := 5) rfl ?_); refine box_event ?hg (N := 5) ?hd (cs := #[.int .i64 0, .slice none 0 0]) (t := 109) ?hr ?_; (case hd => rfl); (case hg => rfl); (case hr => first | (go_simp; done) | (go_simp; rfl)); intro gb335 hg w9 hbox hb; have n0_ := Aside0.mk (below_step (by repeat (first | (with_reducible first | exact HB.out | apply below_alloc | apply pw_below_drewN | apply below_drew1) | exact HB.out)) hb); have n1_ := Aside0.mk (hbox); have n2_ := Aside0.mk ((by rw [hg]; exact (below_size (by repeat (first | (with_reducible first | exact HB.out | apply below_alloc | apply pw_below_drewN | apply below_drew1) | exact HB.out))) : w.heap.size ≤ gb335)); have n3_ := Aside0.mk ((by rw [hg]; exact (below_size (by repeat (first | (with_reducible first | exact HB.out | apply below_alloc | apply pw_below_drewN | apply below_drew1) | exact HB.out))) : w.heap.size ≤ gb335)); clear HB; have HB := n0_; have BK335 := n1_; have GW335 := n2_; have GE335 := n3_; clear n0_ n1_ n2_ n3_; clear hb hbox hg; have hcz10_0 : w9.cell? ⟨gb335, 0, none⟩ = some (.int .i64 0) := (blk_cell BK335.out 0).trans rfl; have hcz10_1 : w9.cell? ⟨gb335, 1, none⟩ = some (.slice none 0 0) := (blk_cell BK335.out 1).trans rfl; have hfz10_0 := blk_frozen BK335.out 0; have hfz10_1 := blk_frozen BK335.out 1))
                go_ret
                exact ⟨by first | rfl | (simp [errW_none, errW_some] <;> rfl) | (simp [*, errW_none, errW_some] <;> rfl), by repeat (first | (with_reducible first | exact HB.out | apply below_alloc | apply pw_below_drewN | apply below_drew1 | refine below_set ?_ GE335.out) | exact HB.out)⟩
              · rw [if_neg c8] at H
                have c8b0 : decide (4096 ≤ ((rd_T109 l0 x8_1).f0)) = false := decide_eq_false c8
                clear c8
                by_cases c11 : (((rd_T109 l0 x8_1).f1).length : Int) = 0
                · rw [if_pos c11] at H
                  have c11b0 : ((((rd_T109 l0 x8_1).f1).length : Int) == 0) = true := beq_iff_eq.mpr c11
                  have c11b1 : ((((rd_T109 l0 x8_1).f1).length : Int) != 0) = false := bne_eq_false_iff_eq.mpr c11
                  clear c11
                  obtain rfl := Option.some.inj H
                  have p334 : 0 ≤ (x8_1 : Int) := of_decide_eq_true (by first | (with_reducible assumption) | assumption)
                  have q334 : x8_1 < (l0.length : Int) := of_decide_eq_true (by first | (with_reducible assumption) | assumption)
                  obtain ⟨ad334, A334_1, c334_1, e334, hx334_0, hx334_1, hl334_1, hi334_1⟩ := at_T109 HR0.out x8_1 p334 q334
                  cases e334
                  replace hx334_0 := (HB.out.cell (World.block_lt_of_cell? w _ hx334_0)).trans hx334_0
                  replace hx334_1 := (HB.out.cell (World.block_lt_of_cell? w _ hx334_1)).trans hx334_1
                  have HR334_1 := Aside0.mk hi334_1
                  have HC334_1 := Aside0.mk hl334_1
                  clear hi334_1 hl334_1
                  replace p334 := eq_true p334
                  replace q334 := eq_true q334
                  go_wp2_with (first | ((with_reducible refine gate_dst (N := 5) rfl ?_); refine box_event ?hg (N := 5) ?hd (cs := #[.int .i64 0, .slice none 0 0]) (t := 109) ?hr ?_; (case hd => rfl); (case hg => rfl); (case hr => first | (go_simp; done) | (go_simp; rfl)); intro gb335 hg w12 hbox hb; have n0_ := Aside0.mk (below_step (by repeat (first | (with_reducible first | exact HB.out | apply below_alloc | apply pw_below_drewN | apply below_drew1) | exact HB.out)) hb); have n1_ := Aside0.mk (hbox); have n2_ := Aside0.mk ((by rw [hg]; exact (below_size (by repeat (first | (with_reducible first | exact HB.out | apply below_alloc | apply pw_below_drewN | apply below_drew1) | exact HB.out))) : w.heap.size ≤ gb335)); have n3_ := Aside0.mk ((by rw [hg]; exact (below_size (by repeat (first | (with_reducible first | exact HB.out | apply below_alloc | apply pw_below_drewN | apply below_drew1) | exact HB.out))) : w.heap.size ≤ gb335)); clear HB; have HB := n0_; have BK335 := n1_; have GW335 := n2_; have GE335 := n3_; clear n0_ n1_ n2_ n3_; clear hb hbox hg; have hcz13_0 : w12.cell? ⟨gb335, 0, none⟩ = some (.int .i64 0) := (blk_cell BK335.out 0).trans rfl; have hcz13_1 : w12.cell? ⟨gb335, 1, none⟩ = some (.slice none 0 0) := (blk_cell BK335.out 1).trans rfl; have hfz13_0 := blk_frozen BK335.out 0; have hfz13_1 := blk_frozen BK335.out 1))
                  go_ret
                  exact ⟨by first | rfl | (simp [errW_none, errW_some] <;> rfl) | (simp [*, errW_none, errW_some] <;> rfl), by repeat (first | (with_reducible first | exact HB.out | apply below_alloc | apply pw_below_drewN | apply below_drew1 | refine below_set ?_ GE335.out) | exact HB.out)⟩
                · rw [if_neg c11] at H
                  have c11b0 : ((((rd_T109 l0 x8_1).f1).length : Int) == 0) = false := beq_eq_false_iff_ne.mpr c11
                  have c11b1 : ((((rd_T109 l0 x8_1).f1).length : Int) != 0) = true := bne_iff_ne.mpr c11
                  have c11b2 : ¬ (((rd_T109 l0 x8_1).f1) = []) := fun h_ => c11 (by rw [h_]; rfl)
                  by_cases c14 : (((rd_T109 l0 x8_1).f1).length : Int) > 1024
                  · rw [if_pos c14] at H
                    have c14b0 : decide (1024 < (((rd_T109 l0 x8_1).f1).length : Int)) = true := decide_eq_true c14
                    have c14b1 : decide (1024 < ((rd_T109 l0 x8_1).f1).length) = true := decide_eq_true (by omega)
                    clear c14
                    obtain rfl := Option.some.inj H
                    have p334 : 0 ≤ (x8_1 : Int) := of_decide_eq_true (by first | (with_reducible assumption) | assumption)
                    have q334 : x8_1 < (l0.length : Int) := of_decide_eq_true (by first | (with_reducible assumption) | assumption)
                    obtain ⟨ad334, A334_1, c334_1, e334, hx334_0, hx334_1, hl334_1, hi334_1⟩ := at_T109 HR0.out x8_1 p334 q334
                    cases e334
                    replace hx334_0 := (HB.out.cell (World.block_lt_of_cell? w _ hx334_0)).trans hx334_0
                    replace hx334_1 := (HB.out.cell (World.block_lt_of_cell? w _ hx334_1)).trans hx334_1
                    have HR334_1 := Aside0.mk hi334_1
                    have HC334_1 := Aside0.mk hl334_1
                    clear hi334_1 hl334_1
                    replace p334 := eq_true p334
                    replace q334 := eq_true q334
                    go_wp2_with (first | ((with_reducible refine gate_dst (N := 5) rfl ?_); refine box_event ?hg (N := 5) ?hd (cs := #[.int .i64 0, .slice none 0 0]) (t := 109) ?hr ?_; (case hd => rfl); (case hg => rfl); (case hr => first | (go_simp; done) | (go_simp; rfl)); intro gb335 hg w15 hbox hb; have n0_ := Aside0.mk (below_step (by repeat (first | (with_reducible first | exact HB.out | apply below_alloc | apply pw_below_drewN | apply below_drew1) | exact HB.out)) hb); have n1_ := Aside0.mk (hbox); have n2_ := Aside0.mk ((by rw [hg]; exact (below_size (by repeat (first | (with_reducible first | exact HB.out | apply below_alloc | apply pw_below_drewN | apply below_drew1) | exact HB.out))) : w.heap.size ≤ gb335)); have n3_ := Aside0.mk ((by rw [hg]; exact (below_size (by repeat (first | (with_reducible first | exact HB.out | apply below_alloc | apply pw_below_drewN | apply below_drew1) | exact HB.out))) : w.heap.size ≤ gb335)); clear HB; have HB := n0_; have BK335 := n1_; have GW335 := n2_; have GE335 := n3_; clear n0_ n1_ n2_ n3_; clear hb hbox hg; have hcz16_0 : w15.cell? ⟨gb335, 0, none⟩ = some (.int .i64 0) := (blk_cell BK335.out 0).trans rfl; have hcz16_1 : w15.cell? ⟨gb335, 1, none⟩ = some (.slice none 0 0) := (blk_cell BK335.out 1).trans rfl; have hfz16_0 := blk_frozen BK335.out 0; have hfz16_1 := blk_frozen BK335.out 1))
                    go_ret
                    exact ⟨by first | rfl | (simp [errW_none, errW_some] <;> rfl) | (simp [*, errW_none, errW_some] <;> rfl), by repeat (first | (with_reducible first | exact HB.out | apply below_alloc | apply pw_below_drewN | apply below_drew1 | refine below_set ?_ GE335.out) | exact HB.out)⟩
                  · rw [if_neg c14] at H
                    have c14b0 : decide (1024 < (((rd_T109 l0 x8_1).f1).length : Int)) = false := decide_eq_false c14
                    have c14b1 : decide (1024 < ((rd_T109 l0 x8_1).f1).length) = false := decide_eq_false (by omega)
                    clear c14
                    replace H := Option.bind_eq_some_iff.mp H
                    obtain ⟨t336, A170, H⟩ := H
                    replace H : (if t336 = true then (block_Right.l0 k1 l0 ((rd_T109 l0 x8_1).f0) l0 (l0.length : Int) (wrap64 (x8_1 + 1))) else (some false)) = some r := H
                    have A17 := Aside0.mk A170
                    clear A170
                    by_cases c18 : t336 = true
                    · subst c18
                      have H1 : (block_Right.l0 k1 l0 ((rd_T109 l0 x8_1).f0) l0 (l0.length : Int) (wrap64 (x8_1 + 1))) = some r := by rw [if_pos rfl] at H; exact H
                      clear H
                      have H := H1
                      clear H1
                      have H' := Aside0.mk H
                      clear H
                      have p334 : 0 ≤ (x8_1 : Int) := of_decide_eq_true (by first | (with_reducible assumption) | assumption)
                      have q334 : x8_1 < (l0.length : Int) := of_decide_eq_true (by first | (with_reducible assumption) | assumption)
                      obtain ⟨ad334, A334_1, c334_1, e334, hx334_0, hx334_1, hl334_1, hi334_1⟩ := at_T109 HR0.out x8_1 p334 q334
                      cases e334
                      replace hx334_0 := (HB.out.cell (World.block_lt_of_cell? w _ hx334_0)).trans hx334_0
                      replace hx334_1 := (HB.out.cell (World.block_lt_of_cell? w _ hx334_1)).trans hx334_1
                      have HR334_1 := Aside0.mk hi334_1
                      have HC334_1 := Aside0.mk hl334_1
                      clear hi334_1 hl334_1
                      replace p334 := eq_true p334
                      replace q334 := eq_true q334
                      go_wp2_with (first | ((with_reducible refine gate_dst (N := 5) rfl ?_); refine box_event ?hg (N := 5) ?hd (cs := #[.int .i64 0, .slice none 0 0]) (t := 109) ?hr ?_; (case hd => rfl); (case hg => rfl); (case hr => first | (go_simp; done) | (go_simp; rfl)); intro gb335 hg w19 hbox hb; have n0_ := Aside0.mk (below_step (by repeat (first | (with_reducible first | exact HB.out | apply below_alloc | apply pw_below_drewN | apply below_drew1) | exact HB.out)) hb); have n1_ := Aside0.mk (hbox); have n2_ := Aside0.mk ((by rw [hg]; exact (below_size (by repeat (first | (with_reducible first | exact HB.out | apply below_alloc | apply pw_below_drewN | apply below_drew1) | exact HB.out))) : w.heap.size ≤ gb335)); have n3_ := Aside0.mk ((by rw [hg]; exact (below_size (by repeat (first | (with_reducible first | exact HB.out | apply below_alloc | apply pw_below_drewN | apply below_drew1) | exact HB.out))) : w.heap.size ≤ gb335)); clear HB; have HB := n0_; have BK335 := n1_; have GW335 := n2_; have GE335 := n3_; clear n0_ n1_ n2_ n3_; clear hb hbox hg; have hcz20_0 : w19.cell? ⟨gb335, 0, none⟩ = some (.int .i64 0) := (blk_cell BK335.out 0).trans rfl; have hcz20_1 : w19.cell? ⟨gb335, 1, none⟩ = some (.slice none 0 0) := (blk_cell BK335.out 1).trans rfl; have hfz20_0 := blk_frozen BK335.out 0; have hfz20_1 := blk_frozen BK335.out 1) | (go_at_call 33; (with_reducible refine (steps_Right.calls k1 _ _ ((rd_T109 l0 x8_1).f1) true _ ?side1 ?side2 A17.out).mono ?_); (case side1 => exact Kd.C_below HR334_1.out (by repeat (first | (with_reducible first | exact HB.out | apply below_alloc | apply pw_below_drewN | apply below_drew1 | refine below_set ?_ GE335.out) | exact HB.out))); (case side2 => exact HC334_1.out); rintro e w' ⟨rfl, ⟨nd, rfl⟩⟩))
                      go_roundg k1
                      case measure => have := HK1.out; omega
                      case rel => exact ⟨((rd_T109 l0 x8_1).f0), (wrap64 (x8_1 + 1)), (by first | rfl | (simp; done) | (simp [*]; done) | (simp <;> grind)), (by first | rfl | (simp; done) | (simp [*]; done) | (simp <;> grind)), H', ⟨by have := HK1.out; omega⟩, ⟨by repeat (first | (with_reducible first | exact HB.out | apply below_alloc | apply pw_below_drewN | apply below_drew1 | refine below_set ?_ GE335.out) | exact HB.out)⟩⟩
                    · replace c18 := Bool.eq_false_iff.mpr c18
                      subst c18
                      have H1 : (some false) = some r := by rw [if_neg (show ¬ (false = true) by decide)] at H; exact H
                      clear H
                      have H := H1
                      clear H1
                      obtain rfl := Option.some.inj H
                      have p334 : 0 ≤ (x8_1 : Int) := of_decide_eq_true (by first | (with_reducible assumption) | assumption)
                      have q334 : x8_1 < (l0.length : Int) := of_decide_eq_true (by first | (with_reducible assumption) | assumption)
                      obtain ⟨ad334, A334_1, c334_1, e334, hx334_0, hx334_1, hl334_1, hi334_1⟩ := at_T109 HR0.out x8_1 p334 q334
                      cases e334
                      replace hx334_0 := (HB.out.cell (World.block_lt_of_cell? w _ hx334_0)).trans hx334_0
                      replace hx334_1 := (HB.out.cell (World.block_lt_of_cell? w _ hx334_1)).trans hx334_1
                      have HR334_1 := Aside0.mk hi334_1
                      have HC334_1 := Aside0.mk hl334_1
                      clear hi334_1 hl334_1
                      replace p334 := eq_true p334
                      replace q334 := eq_true q334
                      go_wp2_with (first | ((with_reducible refine gate_dst (N := 5) rfl ?_); refine box_event ?hg (N := 5) ?hd (cs := #[.int .i64 0, .slice none 0 0]) (t := 109) ?hr ?_; (case hd => rfl); (case hg => rfl); (case hr => first | (go_simp; done) | (go_simp; rfl)); intro gb335 hg w21 hbox hb; have n0_ := Aside0.mk (below_step (by repeat (first | (with_reducible first | exact HB.out | apply below_alloc | apply pw_below_drewN | apply below_drew1) | exact HB.out)) hb); have n1_ := Aside0.mk (hbox); have n2_ := Aside0.mk ((by rw [hg]; exact (below_size (by repeat (first | (with_reducible first | exact HB.out | apply below_alloc | apply pw_below_drewN | apply below_drew1) | exact HB.out))) : w.heap.size ≤ gb335)); have n3_ := Aside0.mk ((by rw [hg]; exact (below_size (by repeat (first | (with_reducible first | exact HB.out | apply below_alloc | apply pw_below_drewN | apply below_drew1) | exact HB.out))) : w.heap.size ≤ gb335)); clear HB; have HB := n0_; have BK335 := n1_; have GW335 := n2_; have GE335 := n3_; clear n0_ n1_ n2_ n3_; clear hb hbox hg; have hcz22_0 : w21.cell? ⟨gb335, 0, none⟩ = some (.int .i64 0) := (blk_cell BK335.out 0).trans rfl; have hcz22_1 : w21.cell? ⟨gb335, 1, none⟩ = some (.slice none 0 0) := (blk_cell BK335.out 1).trans rfl; have hfz22_0 := blk_frozen BK335.out 0; have hfz22_1 := blk_frozen BK335.out 1) | (go_at_call 33; (with_reducible refine (steps_Right.calls k1 _ _ ((rd_T109 l0 x8_1).f1) false _ ?side1 ?side2 A17.out).mono ?_); (case side1 => exact Kd.C_below HR334_1.out (by repeat (first | (with_reducible first | exact HB.out | apply below_alloc | apply pw_below_drewN | apply below_drew1 | refine below_set ?_ GE335.out) | exact HB.out))); (case side2 => exact HC334_1.out); rintro e w' ⟨rfl, ⟨nd, rfl⟩⟩))
                      go_ret
                      exact ⟨by first | rfl | (simp [errW_none, errW_some] <;> rfl) | (simp [*, errW_none, errW_some] <;> rfl), by repeat (first | (with_reducible first | exact HB.out | apply below_alloc | apply pw_below_drewN | apply below_drew1 | refine below_set ?_ GE335.out) | exact HB.out)⟩
          · rw [if_neg c4] at H
            exact absurd H (by simp)
        · rw [if_neg c3] at H
          exact absurd H (by simp)
      · rw [if_neg c2] at H
        have c2b0 : decide (x8_1 < (l0.length : Int)) = false := decide_eq_false c2
        clear c2
        by_cases c23 : (l0.length : Int) > 0
        · rw [if_pos c23] at H
          have c23b0 : decide (0 < (l0.length : Int)) = true := decide_eq_true c23
          have c23b1 : decide (0 < l0.length) = true := decide_eq_true (by omega)
          clear c23
          obtain rfl := Option.some.inj H
          go_wp2
          go_ret
          exact ⟨by first | rfl | (simp [errW_none, errW_some] <;> rfl) | (simp [*, errW_none, errW_some] <;> rfl), by repeat (first | (with_reducible first | exact HB.out | apply below_alloc | apply pw_below_drewN | apply below_drew1) | exact HB.out)⟩
        · rw [if_neg c23] at H
          have c23b0 : decide (0 < (l0.length : Int)) = false := decide_eq_false c23
          have c23b1 : decide (0 < l0.length) = false := decide_eq_false (by omega)
          clear c23
          obtain rfl := Option.some.inj H
          go_wp2
          go_ret
          exact ⟨by first | rfl | (simp [errW_none, errW_some] <;> rfl) | (simp [*, errW_none, errW_some] <;> rfl), by repeat (first | (with_reducible first | exact HB.out | apply below_alloc | apply pw_below_drewN | apply below_drew1) | exact HB.out)⟩

end Go.Proofs.Ythkpnnbjcendcaa.X
end
section
-- By xprint.py, out of the translation's own print. Lean checks it.
namespace Go.Proofs.Ythkpnnbjcendcaa.X
open Go.RowKit Go.Proofs.YthkpnnbjcendcaaW.PrintWords Go.Proofs.YthkpnnbjcendcaaW.PrintLast Go.Proofs.YthkpnnbjcendcaaW.PrintMore
attribute [local go_sem] max2_int min2_int max_two min_two max_three min_three max_four min_four   -- for this text's walks alone
set_option linter.unusedVariables false
set_option linter.unusedSimpArgs false

/-! ### octs_PutText: function 87 -/
def octs_PutText.f (l0 : List Int) (a1 : ByteArray) : Option (List Int) := (octs_Put.f l0 (IntKind.u64.wrap ((a1.size : Int)))).bind fun t337 => (if t337.length + a1.size < 140737488355328 then (some (t337 ++ bytesOf a1)) else (none))
set_option maxHeartbeats 8000000 in
set_option maxRecDepth 100000 in
theorem octs_PutText.calls (A0 : Option Addr) (c0 : Nat) (l0 : List Int) (a1 : ByteArray) (r : List Int) (w : World) (hr0 : Kd.C (Kd.int .u8) w A0 l0.length l0) (hc0 : l0.length ≤ c0) (h : octs_PutText.f l0 a1 = some r) :
    Calls Try.prog 87 #[.slice A0 l0.length c0, .string a1] w fun e w' => ∃ v0_ : Value, e = .returned (v0_) ∧ Kd.R (Kd.int .u8) 5 w' w.heap.size (fun _ => True) v0_ r ∧ Below w.heap.size w w' := by
  have HR0 := Aside0.mk hr0
  have HC0 := Aside0.mk hc0
  clear hr0 hc0
  have HB := Aside0.mk (Below.refl w.heap.size w)
  have H : ((octs_Put.f l0 (IntKind.u64.wrap ((a1.size : Int)))).bind fun t337 => (if t337.length + a1.size < 140737488355328 then (some (t337 ++ bytesOf a1)) else (none))) = some r := h
  clear h
  replace H := Option.bind_eq_some_iff.mp H
  obtain ⟨t337, A30, H⟩ := H
  replace H : (if t337.length + a1.size < 140737488355328 then (some (t337 ++ bytesOf a1)) else (none)) = some r := H
  have A3 := Aside0.mk A30
  clear A30
  by_cases c4 : t337.length + a1.size < 140737488355328
  · rw [if_pos c4] at H
    have LMc4 := Aside0.mk c4
    clear c4
    obtain ⟨y340, hy340⟩ : ∃ y_ : List Int, y_ = (t337 ++ bytesOf a1) := ⟨_, rfl⟩
    replace H : (some y340) = some r := by first | (rw [hy340]; with_reducible exact H) | (have H2_ := (Option.bind_some _ _).symm.trans H; rw [hy340]; with_reducible exact H2_) | (have H2_ := (Option.bind_some _ _).symm.trans H; with_reducible exact H2_) | with_reducible exact H | (rw [hy340]; exact H) | exact H
    have Ny340 := Aside0.mk hy340
    clear hy340
    obtain rfl := Option.some.inj H
    go_enter Try.func87, Try.ntmps87
    go_wp2_with (first | ((with_reducible refine gate_callee (f := 65) rfl ?_); refine goesL_ (some 9) rfl rfl Try.func65 (by kernel_rfl) rfl #[.slice A0 l0.length c0, .int .u64 (IntKind.u64.wrap ((a1.size : Int)))] rfl (by (try simp only [List.map_toArray, List.map_cons, List.map_nil]); first | done | rfl | (simp only [List.length_drop, List.length_take]; rfl)) ?_; (with_reducible refine (octs_Put.calls _ _ l0 (IntKind.u64.wrap ((a1.size : Int))) t337 _ ?side1 ?side2 A3.out).mono ?_); (case side1 => repeat (first | exact HR0.out | (with_reducible refine Kd.C_alloc ?_ _) | (with_reducible refine Kd.C_drewN ?_ _) | (with_reducible refine Kd.C_drew ?_))); (case side2 => exact HC0.out); rintro e w5 ⟨v338, rfl, ho0, hb⟩; refine ⟨_, rfl, ?_⟩; have n0_ := Aside0.mk (Kd.R_lower ho0 (below_size (by repeat (first | (with_reducible first | exact HB.out | apply below_alloc | apply pw_below_drewN | apply below_drew1) | exact HB.out)))); have n1_ := Aside0.mk (below_step (by repeat (first | (with_reducible first | exact HB.out | apply below_alloc | apply pw_below_drewN | apply below_drew1) | exact HB.out)) hb); clear HB; have HO339 := n0_; have HB := n1_; clear n0_ n1_; (try clear hb); (try clear hb2); (try clear hk); (try clear hi); (try clear ho0)) | (at_builtin; refine print_append_str (w0 := w) w.heap.size rfl (.tmp 9) _ 24 9 5 rfl Try.underlying24 Try.underlying9 info5 v338 t337 a1 rfl rfl ?aO ?aB ?aS ?aL ?_; (case aB => exact (by repeat (first | (with_reducible first | exact HB.out | apply below_alloc | apply pw_below_drewN | apply below_drew1) | exact HB.out))); (case aO => exact (Kd.own_of_R (by (with_reducible repeat (first | apply Kd.R_alloc | apply Kd.R_drewN | apply Kd.R_drew)); exact HO339.out))); (case aS => exact (below_size (by repeat (first | (with_reducible first | exact HB.out | apply below_alloc | apply pw_below_drewN | apply below_drew1) | exact HB.out)))); (case aL => have := LMc4.out; omega); intro v341 w6 ho0 hb hg; have ho := Kd.R_of_own (h1 := fun _ => rfl) (ok := fun _ => True) ho0 (fun _ _ => trivial); clear ho0; have hat := True.intro; rw [← Ny340.out] at ho; change Kd.R (Kd.int .u8) 5 w6 w.heap.size (fun _ => True) v341 y340 at ho; have n0_ := Aside0.mk (hb); have n1_ := Aside0.mk (ho); clear HB; clear HO339; have HB := n0_; have HO342 := n1_; clear n0_ n1_; clear ho hb hg hat))
    go_ret
    exact ⟨_, by first | rfl | (simp [errW_none, errW_some] <;> rfl) | (simp [*, errW_none, errW_some] <;> rfl), by (with_reducible repeat (first | apply Kd.R_alloc | apply Kd.R_drewN | apply Kd.R_drew)); exact HO342.out, by repeat (first | (with_reducible first | exact HB.out | apply below_alloc | apply pw_below_drewN | apply below_drew1) | exact HB.out)⟩
  · rw [if_neg c4] at H
    exact absurd H (by simp)

end Go.Proofs.Ythkpnnbjcendcaa.X
end
section
-- By xprint.py, out of the translation's own print. Lean checks it.
namespace Go.Proofs.Ythkpnnbjcendcaa.X
open Go.RowKit Go.Proofs.YthkpnnbjcendcaaW.PrintWords Go.Proofs.YthkpnnbjcendcaaW.PrintLast Go.Proofs.YthkpnnbjcendcaaW.PrintMore
attribute [local go_sem] max2_int min2_int max_two min_two max_three min_three max_four min_four   -- for this text's walks alone
set_option linter.unusedVariables false
set_option linter.unusedSimpArgs false

/-! ### seal_Put: function 88 -/
def seal_Put.f (l0 : List Int) : Option (List Int) := (octs_Put.f ([] : List Int) (IntKind.u64.wrap ((l0.length : Int)))).bind fun t343 => (if t343.length + l0.length < 140737488355328 then ((some (t343 ++ l0 : List Int)).bind fun y346 => ((seal_Sum.f y346).bind fun t349 => ((some (([(t349 / 16777216) % 256, (t349 / 65536) % 256, (t349 / 256) % 256, (t349) % 256] : List Int) : List Int)).bind fun y350 => (if y346.length + y350.length < 140737488355328 then (some (y346 ++ y350)) else (none))))) else (none))
set_option maxHeartbeats 8000000 in
set_option maxRecDepth 100000 in
theorem seal_Put.calls (A0 : Option Addr) (c0 : Nat) (l0 : List Int) (r : List Int) (w : World) (hr0 : Kd.C (Kd.int .u8) w A0 l0.length l0) (hc0 : l0.length ≤ c0) (h : seal_Put.f l0 = some r) :
    Calls Try.prog 88 #[.slice A0 l0.length c0] w fun e w' => ∃ v0_ : Value, e = .returned (v0_) ∧ Kd.R (Kd.int .u8) 5 w' w.heap.size (fun _ => True) v0_ r ∧ Below w.heap.size w w' := by
  have HR0 := Aside0.mk hr0
  have HC0 := Aside0.mk hc0
  clear hr0 hc0
  have HB := Aside0.mk (Below.refl w.heap.size w)
  have H : ((octs_Put.f ([] : List Int) (IntKind.u64.wrap ((l0.length : Int)))).bind fun t343 => (if t343.length + l0.length < 140737488355328 then ((some (t343 ++ l0 : List Int)).bind fun y346 => ((seal_Sum.f y346).bind fun t349 => ((some (([(t349 / 16777216) % 256, (t349 / 65536) % 256, (t349 / 256) % 256, (t349) % 256] : List Int) : List Int)).bind fun y350 => (if y346.length + y350.length < 140737488355328 then (some (y346 ++ y350)) else (none))))) else (none))) = some r := h
  clear h
  replace H := Option.bind_eq_some_iff.mp H
  obtain ⟨t343, A20, H⟩ := H
  replace H : (if t343.length + l0.length < 140737488355328 then ((some (t343 ++ l0 : List Int)).bind fun y346 => ((seal_Sum.f y346).bind fun t349 => ((some (([(t349 / 16777216) % 256, (t349 / 65536) % 256, (t349 / 256) % 256, (t349) % 256] : List Int) : List Int)).bind fun y350 => (if y346.length + y350.length < 140737488355328 then (some (y346 ++ y350)) else (none))))) else (none)) = some r := H
  have A2 := Aside0.mk A20
  clear A20
  by_cases c3 : t343.length + l0.length < 140737488355328
  · rw [if_pos c3] at H
    have LMc3 := Aside0.mk c3
    clear c3
    obtain ⟨y346, hy346⟩ : ∃ y_ : List Int, y_ = (t343 ++ l0) := ⟨_, rfl⟩
    replace H : ((seal_Sum.f y346).bind fun t349 => ((some (([(t349 / 16777216) % 256, (t349 / 65536) % 256, (t349 / 256) % 256, (t349) % 256] : List Int) : List Int)).bind fun y350 => (if y346.length + y350.length < 140737488355328 then (some (y346 ++ y350)) else (none)))) = some r := by first | (rw [hy346]; with_reducible exact H) | (have H2_ := (Option.bind_some _ _).symm.trans H; rw [hy346]; with_reducible exact H2_) | (have H2_ := (Option.bind_some _ _).symm.trans H; with_reducible exact H2_) | with_reducible exact H | (rw [hy346]; exact H) | exact H
    have Ny346 := Aside0.mk hy346
    clear hy346
    replace H := Option.bind_eq_some_iff.mp H
    obtain ⟨t349, A40, H⟩ := H
    replace H : ((some (([(t349 / 16777216) % 256, (t349 / 65536) % 256, (t349 / 256) % 256, (t349) % 256] : List Int) : List Int)).bind fun y350 => (if y346.length + y350.length < 140737488355328 then (some (y346 ++ y350)) else (none))) = some r := H
    have A4 := Aside0.mk A40
    clear A40
    obtain ⟨y350, hy350⟩ : ∃ y_ : List Int, y_ = (([(t349 / 16777216) % 256, (t349 / 65536) % 256, (t349 / 256) % 256, (t349) % 256] : List Int)) := ⟨_, rfl⟩
    replace H : (if y346.length + y350.length < 140737488355328 then (some (y346 ++ y350)) else (none)) = some r := by first | (rw [hy350]; with_reducible exact H) | (have H2_ := (Option.bind_some _ _).symm.trans H; rw [hy350]; with_reducible exact H2_) | (have H2_ := (Option.bind_some _ _).symm.trans H; with_reducible exact H2_) | with_reducible exact H | (rw [hy350]; exact H) | exact H
    have Ny350 := Aside0.mk hy350
    clear hy350
    by_cases c5 : y346.length + y350.length < 140737488355328
    · rw [if_pos c5] at H
      have LMc5 := Aside0.mk c5
      clear c5
      obtain ⟨y353, hy353⟩ : ∃ y_ : List Int, y_ = (y346 ++ y350) := ⟨_, rfl⟩
      replace H : (some y353) = some r := by first | (rw [hy353]; with_reducible exact H) | (have H2_ := (Option.bind_some _ _).symm.trans H; rw [hy353]; with_reducible exact H2_) | (have H2_ := (Option.bind_some _ _).symm.trans H; with_reducible exact H2_) | with_reducible exact H | (rw [hy353]; exact H) | exact H
      have Ny353 := Aside0.mk hy353
      clear hy353
      obtain rfl := Option.some.inj H
      go_enter Try.func88, Try.ntmps88
      go_wp2_with (first | ((with_reducible refine gate_callee (f := 65) rfl ?_); refine goesL_ (some 8) rfl rfl Try.func65 (by kernel_rfl) rfl #[.slice none 0 0, .int .u64 (IntKind.u64.wrap ((l0.length : Int)))] rfl (by (try simp only [List.map_toArray, List.map_cons, List.map_nil]); first | done | rfl | (simp only [List.length_drop, List.length_take]; rfl)) ?_; (refine (octs_Put.calls _ _ ([] : List Int) (IntKind.u64.wrap ((l0.length : Int))) t343 _ ?side1 ?side2 A2.out).mono ?_); (case side1 => exact Kd.C_nil _ _); (case side2 => exact Nat.le_refl _); rintro e w6 ⟨v344, rfl, ho0, hb⟩; refine ⟨_, rfl, ?_⟩; have n0_ := Aside0.mk (Kd.R_lower ho0 (below_size (by repeat (first | (with_reducible first | exact HB.out | apply below_alloc | apply pw_below_drewN | apply below_drew1) | exact HB.out)))); have n1_ := Aside0.mk (below_step (by repeat (first | (with_reducible first | exact HB.out | apply below_alloc | apply pw_below_drewN | apply below_drew1) | exact HB.out)) hb); clear HB; have HO345 := n0_; have HB := n1_; clear n0_ n1_; (try clear hb); (try clear hb2); (try clear hk); (try clear hi); (try clear ho0)) | ((with_reducible refine gate_builtin (b := .append) (xs := #[.tmp 8, .tmp 9]) rfl ?_); at_builtin; refine Kd.R_append_rows (Kd.int .u8) (w0 := w) w.heap.size rfl (.tmp 8) (.tmp 9) 24 5 (.int .u8 0) 1 rfl Try.underlying24 info5 rfl (by decide) (by omega) v344 t343 l0 _ _ _ (fun _ => True) (fun _ => False) rfl rfl ?aO ?aR (fun _ _ h => h) (fun _ h => h.elim) ?aF ?aB ?aS ?aL ?_; (case aR => repeat (first | exact (Kd.C_below HR0.out HB.out) | (with_reducible refine Kd.C_alloc ?_ _) | (with_reducible refine Kd.C_drewN ?_ _) | (with_reducible refine Kd.C_drew ?_))); (case aB => exact (by repeat (first | (with_reducible first | exact HB.out | apply below_alloc | apply pw_below_drewN | apply below_drew1) | exact HB.out))); (case aF => exact (fun _ _ => trivial)); (case aO => exact (by (with_reducible repeat (first | apply Kd.R_alloc | apply Kd.R_drewN | apply Kd.R_drew)); exact HO345.out)); (case aS => exact (below_size (by repeat (first | (with_reducible first | exact HB.out | apply below_alloc | apply pw_below_drewN | apply below_drew1) | exact HB.out)))); (case aL => have := LMc3.out; omega); intro v347 w7 ho hb hg hat; rw [← Ny346.out] at ho; have n0_ := Aside0.mk (hb); have n1_ := Aside0.mk (ho); clear HB; clear HO345; have HB := n0_; have HO348 := n1_; clear n0_ n1_; clear ho hb hg hat; obtain ⟨Ao8, co8, eo8⟩ := Kd.R_slice HO348.out; subst eo8) | ((with_reducible refine gate_callee (f := 107) rfl ?_); refine goesL_ (some 12) rfl rfl Try.func107 (by kernel_rfl) rfl #[.slice Ao8 y346.length co8] rfl (by (try simp only [List.map_toArray, List.map_cons, List.map_nil]); first | done | rfl | (simp only [List.length_drop, List.length_take]; rfl)) ?_; (with_reducible refine (seal_Sum.calls _ _ y346 t349 _ ?side1 ?side2 A4.out).mono ?_); (case side1 => repeat (first | exact (Kd.R_reads' HO348.out).2.2 | (with_reducible refine Kd.C_alloc ?_ _) | (with_reducible refine Kd.C_drewN ?_ _) | (with_reducible refine Kd.C_drew ?_))); (case side2 => exact (Kd.R_reads' HO348.out).2.1); rintro e w9 ⟨rfl, hb⟩; refine ⟨_, rfl, ?_⟩; have n0_ := Aside0.mk (Kd.R_below (by (with_reducible repeat (first | apply Kd.R_alloc | apply Kd.R_drewN | apply Kd.R_drew)); exact HO348.out) hb); have n1_ := Aside0.mk (below_step (by repeat (first | (with_reducible first | exact HB.out | apply below_alloc | apply pw_below_drewN | apply below_drew1) | exact HB.out)) hb); clear HO348; clear HB; have HO348 := n0_; have HB := n1_; clear n0_ n1_; (try clear hb); (try clear hb2); (try clear hk); (try clear hi)) | ((with_reducible refine gate_dst (N := 25) rfl ?_); refine Kd.R_lit (Kd.int .u8) _ 5 ?hg (N := 25) ?hd (xs := ([(t349 / 16777216) % 256, (t349 / 65536) % 256, (t349 / 256) % 256, (t349) % 256] : List Int)) (inner := [.int .u8 ((t349 / 16777216) % 256), .int .u8 ((t349 / 65536) % 256), .int .u8 ((t349 / 256) % 256), .int .u8 ((t349) % 256)]) (ok := fun _ => True) (okp := fun _ => True) ?hr ?hp (fun _ hk => hk) trivial (Below.refl _ _) (Nat.le_refl _) (by simp) ?_; (case hd => rfl); (case hg => rfl); (case hr => first | (go_simp; done) | (go_simp; rfl)); (case hp => exact (Reps.one (show Kd.M (Kd.int .u8) _ _ _ ((t349 / 16777216) % 256) [.int .u8 ((t349 / 16777216) % 256)] from rfl) (Reps.one (show Kd.M (Kd.int .u8) _ _ _ ((t349 / 65536) % 256) [.int .u8 ((t349 / 65536) % 256)] from rfl) (Reps.one (show Kd.M (Kd.int .u8) _ _ _ ((t349 / 256) % 256) [.int .u8 ((t349 / 256) % 256)] from rfl) (Reps.one (show Kd.M (Kd.int .u8) _ _ _ ((t349) % 256) [.int .u8 ((t349) % 256)] from rfl) (Reps.none _ _)))))); intro v351 w10 ho11 hb hg_ hnew_; clear hg_ hnew_; (first | rw [← Ny350.out] at ho11 | (simp only [Int.reduceToNat] at ho11; rw [← Ny350.out] at ho11)); have n0_ := Aside0.mk (Kd.R_elder' (by (with_reducible repeat (first | apply Kd.R_alloc | apply Kd.R_drewN | apply Kd.R_drew)); exact HO348.out) (Kd.R_base ho11) hb); have n1_ := Aside0.mk (Kd.R_lower (Kd.R_new' ho11 (Kd.R_lt (by (with_reducible repeat (first | apply Kd.R_alloc | apply Kd.R_drewN | apply Kd.R_drew)); exact HO348.out))) (below_size (by repeat (first | (with_reducible first | exact HB.out | apply below_alloc | apply pw_below_drewN | apply below_drew1) | exact HB.out)))); have n2_ := Aside0.mk (below_step (by repeat (first | (with_reducible first | exact HB.out | apply below_alloc | apply pw_below_drewN | apply below_drew1) | exact HB.out)) hb); clear HO348; clear HB; have HO348 := n0_; have HO352 := n1_; have HB := n2_; clear n0_ n1_ n2_; clear hb ho11; obtain ⟨Ao13, co13, eo13⟩ := Kd.R_slice HO352.out; subst eo13) | ((with_reducible refine gate_builtin (b := .append) (xs := #[.tmp 13, .tmp 25]) rfl ?_); at_builtin; refine Kd.R_append_rows (Kd.int .u8) (w0 := w) w.heap.size rfl (.tmp 13) (.tmp 25) 24 5 (.int .u8 0) 1 rfl Try.underlying24 info5 rfl (by decide) (by omega) (.slice Ao8 y346.length co8) y346 y350 _ _ _ (fun k_ => some k_ ≠ (.slice Ao13 y350.length co13 : Value).ownBlock) (fun _ => False) rfl rfl ?aO ?aR (fun _ _ h => h) (fun _ h => h.elim) ?aF ?aB ?aS ?aL ?_; (case aR => repeat (first | exact (Kd.R_reads' HO352.out).2.2 | (with_reducible refine Kd.C_alloc ?_ _) | (with_reducible refine Kd.C_drewN ?_ _) | (with_reducible refine Kd.C_drew ?_))); (case aB => exact (by repeat (first | (with_reducible first | exact HB.out | apply below_alloc | apply pw_below_drewN | apply below_drew1) | exact HB.out))); (case aF => exact (fun k_ hk => Kd.fresh' (Kd.R_lt (by (with_reducible repeat (first | apply Kd.R_alloc | apply Kd.R_drewN | apply Kd.R_drew)); exact HO352.out)) k_ hk)); (case aO => exact (by (with_reducible repeat (first | apply Kd.R_alloc | apply Kd.R_drewN | apply Kd.R_drew)); exact Kd.R_mono HO348.out (fun _ hk => hk.2))); (case aS => exact (below_size (by repeat (first | (with_reducible first | exact HB.out | apply below_alloc | apply pw_below_drewN | apply below_drew1) | exact HB.out)))); (case aL => have := LMc5.out; omega); intro v354 w12 ho hb hg hat; rw [← Ny353.out] at ho; have n0_ := Aside0.mk (Kd.R_after (ok := (fun _ => True)) (by (with_reducible repeat (first | apply Kd.R_alloc | apply Kd.R_drewN | apply Kd.R_drew)); exact HO352.out) hg hat); have n1_ := Aside0.mk (hb); have n2_ := Aside0.mk (ho); clear HO352; clear HB; clear HO348; have HO352 := n0_; have HB := n1_; have HO355 := n2_; clear n0_ n1_ n2_; clear ho hb hg hat))
      go_ret
      exact ⟨_, by first | rfl | (simp [errW_none, errW_some] <;> rfl) | (simp [*, errW_none, errW_some] <;> rfl), by (with_reducible repeat (first | apply Kd.R_alloc | apply Kd.R_drewN | apply Kd.R_drew)); exact Kd.R_mono HO355.out (fun _ hk => trivial), by repeat (first | (with_reducible first | exact HB.out | apply below_alloc | apply pw_below_drewN | apply below_drew1) | exact HB.out)⟩
    · rw [if_neg c5] at H
      exact absurd H (by simp)
  · rw [if_neg c3] at H
    exact absurd H (by simp)

end Go.Proofs.Ythkpnnbjcendcaa.X
end
